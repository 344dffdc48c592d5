/- The law PpuScrolls: what it does. -/
import Derived.Test.YtkfclamiendamaaKV29
import Derived.Test.YtkfclamiendamaaKS
namespace Go.Proofs.Ytkfclamiendamaa
open Go.Sl Go.Xg
set_option linter.unusedVariables false
set_option linter.unusedSimpArgs false
set_option maxHeartbeats 4000000
set_option maxRecDepth 100000

theorem pickN_in (c : Int) (n : Nat) (h : 0 ≤ c ∧ c < (n : Int)) : pickN c n = c.toNat := by
  unfold pickN
  rw [if_neg (by omega), Int.emod_eq_of_lt h.1 h.2]
theorem pickN_nat (c n : Nat) (h : 0 < n) : pickN (c : Int) n = c % n := by
  unfold pickN
  rw [if_neg (by omega)]
  omega

/-- The number of the background's point, of tiles from 32768 on and the first map. -/
def groundT (s : Sn) (r c : Int) : Int := tileI { zeroP with regs := fun _ => 145, vram := putP newP.vram s.ps s.pn } false r c
theorem groundT_bd (s : Sn) (r c : Int) : 0 ≤ groundT s r c ∧ groundT s r c ≤ 3 := numI_bd _ _ _

theorem reg_pick {s : Sn} {i : Nat} (v : Int) (hi : i ≠ 0) (hn : i < s.rn) (e : s.rs.getD i 0 = v) (hv : 0 ≤ v ∧ v ≤ 255) : regI s i = v := by
  unfold regI
  rw [if_neg hi, if_pos hn, e, pickN_in v 256 (by omega)]
  omega
theorem reg_zero {s : Sn} (v : Int) (hn : 0 < s.rn) (e : s.rs.getD 0 0 = v) (hv : 128 ≤ v ∧ v ≤ 255) : regI s 0 = v := by
  unfold regI
  rw [if_pos rfl, if_pos hn, e, pickN_in v 256 (by omega)]
  have key : ∀ k : Fin 128, bor .i64 (((k.val + 128 : Nat) : Int)) 128 = ((k.val + 128 : Nat) : Int) := by decide +kernel
  have := key ⟨(v - 128).toNat, by omega⟩
  simp only at this
  rw [show (((v - 128).toNat + 128 : Nat) : Int) = v from by omega] at this
  rw [show ((v.toNat : Nat) : Int) = v from by omega]
  exact this

/-- A point of a plain scene's picture. -/
theorem plain_pic (s : Sn) (b : Nat) (Y X p r4 r5 r6 r8 r9 r10 r11 : Int) (hY : 0 ≤ Y ∧ Y ≤ 255) (hX : 0 ≤ X ∧ X ≤ 255) (hp : 0 ≤ p ∧ p ≤ 255) (y x : Nat) :
    PIC (scP (regS b 145 0 Y X r4 r5 r6 p r8 r9 r10 r11 s)) y x = p / 2 ^ (2 * groundT s (((y : Int) + Y) % 256) (((x : Int) + X) % 256)).toNat % 4 := by
  obtain ⟨S, hS⟩ : ∃ S, regS b 145 0 Y X r4 r5 r6 p r8 r9 r10 r11 s = S := ⟨_, rfl⟩
  have e0 : regI S 0 = 145 := by rw [← hS]; exact reg_zero 145 (by show 0 < 12; omega) rfl (by omega)
  have e2 : regI S 2 = Y := by rw [← hS]; exact reg_pick Y (by omega) (by show 2 < 12; omega) rfl hY
  have e3 : regI S 3 = X := by rw [← hS]; exact reg_pick X (by omega) (by show 3 < 12; omega) rfl hX
  have e7 : regI S 7 = p := by rw [← hS]; exact reg_pick p (by omega) (by show 7 < 12; omega) rfl hp
  have ep : S.ps = s.ps ∧ S.pn = s.pn := by rw [← hS]; exact ⟨rfl, rfl⟩
  rw [hS]
  have g0 := (scP_reg S 0 (by omega)).trans e0
  have g2 := (scP_reg S 2 (by omega)).trans e2
  have g3 := (scP_reg S 3 (by omega)).trans e3
  have g7 := (scP_reg S 7 (by omega)).trans e7
  have gv : (scP S).vram = putP newP.vram s.ps s.pn := by show putP newP.vram S.ps S.pn = _; rw [ep.1, ep.2]
  obtain ⟨σ, hσ⟩ : ∃ σ, scP S = σ := ⟨_, rfl⟩
  rw [hσ] at g0 g2 g3 g7 gv ⊢
  have l0 : (lineSt σ y).regs 0 = 145 := by show upd σ.regs 4 y 0 = _; rw [upd_ne (by omega), g0]
  have l2 : (lineSt σ y).regs 2 = Y := by show upd σ.regs 4 y 2 = _; rw [upd_ne (by omega), g2]
  have l3 : (lineSt σ y).regs 3 = X := by show upd σ.regs 4 y 3 = _; rw [upd_ne (by omega), g3]
  have l7 : (lineSt σ y).regs (7 : Int).toNat = p := by show upd σ.regs 4 y 7 = _; rw [upd_ne (by omega), g7]
  have l4 : (lineSt σ y).regs 4 = (y : Int) := by show upd σ.regs 4 y 4 = (y : Int); exact upd_same _ _ _
  have lv : (lineSt σ y).vram = putP newP.vram s.ps s.pn := gv
  obtain ⟨τ, hτ⟩ : ∃ τ, lineSt σ y = τ := ⟨_, rfl⟩
  unfold PIC
  rw [hτ] at l0 l2 l3 l7 l4 lv ⊢
  have hspr : sprL τ (y : Int) = [] := by unfold sprL; rw [l0]; exact if_neg (by decide)
  have hw : winB τ = false := by unfold winB; rw [l0]; rfl
  rw [hspr]
  unfold pixI
  have hov : overI τ (τ.regs 4) (x : Int) [] = ov0 := rfl
  have hg : groundI τ (x : Int) = groundT s (((y : Int) + Y) % 256) (((x : Int) + X) % 256) := by
    unfold groundI
    rw [l0, if_pos (by decide), if_neg (by rw [hw]; simp), l2, l3, l4, show hasB 145 3 = false from by decide]
    unfold groundT tileI placeI numI
    rw [l0, lv]
  rw [hov, hg]
  unfold mixI
  rw [if_neg (by unfold ov0; simp)]
  unfold palI
  rw [l7]

set_option maxHeartbeats 0 in
theorem pscrolls_d (A : HP) (s : Sn) (hs : s.Ok A) (scy : Int) (hscy : i64ok scy) (scx : Int) (hscx : i64ok scx) (dy : Int) (hdy : i64ok dy) (dx : Int) (hdx : i64ok dx) :
    Does Try.prog 6 [snV s, .int .i64 scy, .int .i64 scx, .int .i64 dy, .int .i64 dx] [A] (Ret (.bool true) [A]) := by
  have hpl : ∀ y x : Int, -9223372036854775808 ≤ y ∧ y ≤ 9223372036854775807 → -9223372036854775808 ≤ x ∧ x ≤ 9223372036854775807 → _ := fun y x hy hx => plain_d A s y x hy hx
  have hsh : ∀ (b Y X : Nat), Y < 256 → X < 256 → _ := fun b Y X h1 h2 => shot_reg A s hs b 145 0 Y X 0 0 0 228 0 0 0 0 (by
    intro z hz
    unfold i64ok
    simp only [List.mem_cons, List.not_mem_nil, or_false] at hz
    omega)
  have b1 := hscy
  have b2 := hscx
  unfold i64ok at b1 b2
  (focus
    refine Xg.spec_of Go.Proofs.Try.func6 rfl Go.Proofs.Try.ntmps6 fun g F => ?_)
  (focus
    refine Xg.at_seq ?_
    refine Xg.at_region ?_
    refine Xg.ops_op (by kernel_rfl) (Xg.opx_box (v := (Value.agg #[Value.slice s.ra s.rn s.rc, Value.slice s.oa s.on s.oc, Value.slice s.pa s.pn s.pc])) [Value.slice s.ra s.rn s.rc, Value.slice s.oa s.on s.oc, Value.slice s.pa s.pn s.pc] (by kernel_rfl) (by kernel_rfl) fun xb1 => ?_)
    refine Xg.ops_op (by kernel_rfl) (Xg.opx_pure ((Value.bool false)) rfl (fun _ => by kernel_rfl) ?_)
    refine Xg.ops_nil ?_
    refine Xg.at_seq ?_
    refine Xg.at_region ?_
    refine Xg.ops_op (by kernel_rfl) (Xg.opx_loadn (off := 0) 3 0 [Value.slice s.ra s.rn s.rc, Value.slice s.oa s.on s.oc, Value.slice s.pa s.pn s.pc] (by kernel_rfl) rfl (by kernel_rfl) rfl (Xg.cells_at (by kernel_rfl)) (by kernel_rfl) ?_)
    refine Xg.ops_op (by kernel_rfl) (Xg.opx_pure ((iv scy)) rfl (fun _ => by kernel_rfl) ?_)
    refine Xg.ops_op (by kernel_rfl) (Xg.opx_pure ((iv scx)) rfl (fun _ => by kernel_rfl) ?_)
    refine Xg.ops_op (by kernel_rfl) (Xg.opx_callE' [1] (fun xx1 => [rowR xx1.fst (145 : Int) (0 : Int) (↑xx1.snd.fst : Int) (↑xx1.snd.snd : Int) (0 : Int) (0 : Int) (0 : Int) (228 : Int) (0 : Int) (0 : Int) (0 : Int) (0 : Int), A, row xb1 (36 : Nat) [Value.slice s.ra s.rn s.rc, Value.slice s.oa s.on s.oc, Value.slice s.pa s.pn s.pc]]) (fun _ => by kernel_rfl) (@hpl (scy) (scx) (by omega) (by omega)) (by kernel_rfl) (by kernel_rfl) (by kernel_rfl) fun xx1 xh1 => ?_)
    try dsimp only at xh1
    obtain ⟨xh1_0, xh1_1, xh1_2, xh1_3⟩ := xh1
    refine Xg.ops_op (by kernel_rfl) (Xg.opx_callE' [0, 1] (fun xx2 => [ints (5 : TypeId) IntKind.u8 xx2.fst xx2.snd.fst xx2.snd.snd, rowR xx1.fst (145 : Int) (0 : Int) (↑xx1.snd.fst : Int) (↑xx1.snd.snd : Int) (0 : Int) (0 : Int) (0 : Int) (228 : Int) (0 : Int) (0 : Int) (0 : Int) (0 : Int), A, row xb1 (36 : Nat) [Value.slice s.ra s.rn s.rc, Value.slice s.oa s.on s.oc, Value.slice s.pa s.pn s.pc]]) (fun _ => by kernel_rfl) (@hsh (xx1.fst) (xx1.snd.fst) (xx1.snd.snd) (by omega) (by omega)) (by kernel_rfl) (by kernel_rfl) (by kernel_rfl) fun xx2 xh2 => ?_)
    try dsimp only at xh2
    obtain ⟨xh2_0, xh2_1⟩ := xh2
    refine Xg.ops_op (by kernel_rfl) (Xg.opx_pure ((Value.tuple #[Value.slice xx2.fst xx2.snd.snd.length xx2.snd.fst, Value.bool true])) rfl (fun _ => by kernel_rfl) ?_)
    refine Xg.ops_op (by kernel_rfl) (Xg.opx_pure ((Value.slice xx2.fst xx2.snd.snd.length xx2.snd.fst)) rfl (fun _ => by kernel_rfl) ?_)
    refine Xg.ops_op (by kernel_rfl) (Xg.opx_pure ((Value.bool true)) rfl (fun _ => by kernel_rfl) ?_)
    refine Xg.ops_op (by kernel_rfl) (Xg.opx_pure ((Value.slice xx2.fst xx2.snd.snd.length xx2.snd.fst)) rfl (fun _ => by kernel_rfl) ?_)
    refine Xg.ops_op (by kernel_rfl) (Xg.opx_pure ((Value.bool true)) rfl (fun _ => by kernel_rfl) ?_)
    refine Xg.ops_nil ?_
    refine Xg.at_seq ?_
    refine Xg.at_region ?_
    refine Xg.ops_op (by kernel_rfl) (Xg.opx_pure ((iv dy)) rfl (fun _ => by kernel_rfl) ?_)
    refine Xg.ops_op (by kernel_rfl) (Xg.opx_callE' [] (fun xx3 => [ints (5 : TypeId) IntKind.u8 xx2.fst xx2.snd.fst xx2.snd.snd, rowR xx1.fst (145 : Int) (0 : Int) (↑xx1.snd.fst : Int) (↑xx1.snd.snd : Int) (0 : Int) (0 : Int) (0 : Int) (228 : Int) (0 : Int) (0 : Int) (0 : Int) (0 : Int), A, row xb1 (36 : Nat) [Value.slice s.ra s.rn s.rc, Value.slice s.oa s.on s.oc, Value.slice s.pa s.pn s.pc]]) (fun _ => by kernel_rfl) (@Go.Proofs.Ytkfclamiendamaa.pick_d (dy) ((nat_lit 100)) (by omega) (by first | rfl | decide | (constructor <;> omega) | (simp; done) | (simp; omega))) (by kernel_rfl) (by kernel_rfl) (by kernel_rfl) fun xx3 xh3 => ?_)
    try dsimp only at xh3
    obtain ⟨xh3_0, xh3_1⟩ := xh3
    refine Xg.ops_op (by kernel_rfl) (Xg.opx_pure ((iv (↑xx3 : Int))) rfl (fun _ => by kernel_rfl) ?_)
    refine Xg.ops_nil ?_
    refine Xg.at_seq ?_
    refine Xg.at_region ?_
    refine Xg.ops_op (by kernel_rfl) (Xg.opx_pure ((iv dx)) rfl (fun _ => by kernel_rfl) ?_)
    refine Xg.ops_op (by kernel_rfl) (Xg.opx_callE' [] (fun xx4 => [ints (5 : TypeId) IntKind.u8 xx2.fst xx2.snd.fst xx2.snd.snd, rowR xx1.fst (145 : Int) (0 : Int) (↑xx1.snd.fst : Int) (↑xx1.snd.snd : Int) (0 : Int) (0 : Int) (0 : Int) (228 : Int) (0 : Int) (0 : Int) (0 : Int) (0 : Int), A, row xb1 (36 : Nat) [Value.slice s.ra s.rn s.rc, Value.slice s.oa s.on s.oc, Value.slice s.pa s.pn s.pc]]) (fun _ => by kernel_rfl) (@Go.Proofs.Ytkfclamiendamaa.pick_d (dx) ((nat_lit 100)) (by omega) (by first | rfl | decide | (constructor <;> omega) | (simp; done) | (simp; omega))) (by kernel_rfl) (by kernel_rfl) (by kernel_rfl) fun xx4 xh4 => ?_)
    try dsimp only at xh4
    obtain ⟨xh4_0, xh4_1⟩ := xh4
    refine Xg.ops_op (by kernel_rfl) (Xg.opx_pure ((iv (↑xx4 : Int))) rfl (fun _ => by kernel_rfl) ?_)
    refine Xg.ops_nil ?_
    refine Xg.at_seq ?_
    refine Xg.at_draw [0, 2, 6, 9, 10] [] (by kernel_rfl) ?_
    refine Xg.any_pure ((iv scy)) 1 (by kernel_rfl) rfl (by kernel_rfl) (by kernel_rfl) (by kernel_rfl) (by kernel_rfl) rfl (fun _ => by kernel_rfl) ?_
    refine Xg.any_pure ((iv (↑xx3 : Int))) 3 (by kernel_rfl) rfl (by kernel_rfl) (by kernel_rfl) (by kernel_rfl) (by kernel_rfl) rfl (fun _ => by kernel_rfl) ?_
    refine Xg.any_pure ((iv scx)) 5 (by kernel_rfl) rfl (by kernel_rfl) (by kernel_rfl) (by kernel_rfl) (by kernel_rfl) rfl (fun _ => by kernel_rfl) ?_
    refine Xg.any_pure ((iv (↑xx4 : Int))) 7 (by kernel_rfl) rfl (by kernel_rfl) (by kernel_rfl) (by kernel_rfl) (by kernel_rfl) rfl (fun _ => by kernel_rfl) ?_
    refine Xg.any_each [0, 2] (by kernel_rfl) rfl ⟨?_, ?_, trivial⟩
    refine Xg.comes_act rfl (by kernel_rfl) (by kernel_rfl) (Xg.opx_loadn (off := 0) 3 3 [Value.slice s.ra s.rn s.rc, Value.slice s.oa s.on s.oc, Value.slice s.pa s.pn s.pc] (by kernel_rfl) rfl (by kernel_rfl) rfl (Xg.cells_at (by kernel_rfl)) (by kernel_rfl) ?_)
    refine Xg.acts Xg.owes_nil ?_
    rotate_left
    refine Xg.comes_act rfl (by kernel_rfl) (by kernel_rfl) (Xg.opx_callE' [] (fun xx5 => [ints (5 : TypeId) IntKind.u8 xx2.fst xx2.snd.fst xx2.snd.snd, rowR xx1.fst (145 : Int) (0 : Int) (↑xx1.snd.fst : Int) (↑xx1.snd.snd : Int) (0 : Int) (0 : Int) (0 : Int) (228 : Int) (0 : Int) (0 : Int) (0 : Int) (0 : Int), A, row xb1 (36 : Nat) [Value.slice s.ra s.rn s.rc, Value.slice s.oa s.on s.oc, Value.slice s.pa s.pn s.pc]]) (fun _ => by kernel_rfl) (@Go.Proofs.Ytkfclamiendamaa.pick_d (scy) ((nat_lit 256)) (by omega) (by first | rfl | decide | (constructor <;> omega) | (simp; done) | (simp; omega))) (by kernel_rfl) (by kernel_rfl) (by kernel_rfl) fun xx5 xh5 => ?_)
    try dsimp only at xh5
    obtain ⟨xh5_0, xh5_1⟩ := xh5
    refine Xg.acts Xg.owes_nil ?_
    rotate_left
    refine Xg.any_each [2] (by kernel_rfl) rfl ⟨?_, trivial⟩
    refine Xg.comes_act rfl (by kernel_rfl) (by kernel_rfl) (Xg.opx_callE' [] (fun xx5 => [ints (5 : TypeId) IntKind.u8 xx2.fst xx2.snd.fst xx2.snd.snd, rowR xx1.fst (145 : Int) (0 : Int) (↑xx1.snd.fst : Int) (↑xx1.snd.snd : Int) (0 : Int) (0 : Int) (0 : Int) (228 : Int) (0 : Int) (0 : Int) (0 : Int) (0 : Int), A, row xb1 (36 : Nat) [Value.slice s.ra s.rn s.rc, Value.slice s.oa s.on s.oc, Value.slice s.pa s.pn s.pc]]) (fun _ => by kernel_rfl) (@Go.Proofs.Ytkfclamiendamaa.pick_d (scy) ((nat_lit 256)) (by omega) (by first | rfl | decide | (constructor <;> omega) | (simp; done) | (simp; omega))) (by kernel_rfl) (by kernel_rfl) (by kernel_rfl) fun xx5 xh5 => ?_)
    try dsimp only at xh5
    obtain ⟨xh5_0, xh5_1⟩ := xh5
    refine Xg.acts Xg.owes_nil ?_
    refine Xg.any_int .i64 (IntKind.wrap .i64 (((↑xx5 : Int) + (↑xx3 : Int)))) 4 (by kernel_rfl) rfl (by kernel_rfl) (by kernel_rfl) (by kernel_rfl) (by kernel_rfl) rfl (fun _ => by kernel_rfl) (Xg.wrap_i64_in (by omega)) ?_
    refine Xg.any_each [6] (by kernel_rfl) rfl ⟨?_, trivial⟩
    refine Xg.comes_act rfl (by kernel_rfl) (by kernel_rfl) (Xg.opx_callE' [] (fun xx6 => [ints (5 : TypeId) IntKind.u8 xx2.fst xx2.snd.fst xx2.snd.snd, rowR xx1.fst (145 : Int) (0 : Int) (↑xx1.snd.fst : Int) (↑xx1.snd.snd : Int) (0 : Int) (0 : Int) (0 : Int) (228 : Int) (0 : Int) (0 : Int) (0 : Int) (0 : Int), A, row xb1 (36 : Nat) [Value.slice s.ra s.rn s.rc, Value.slice s.oa s.on s.oc, Value.slice s.pa s.pn s.pc]]) (fun _ => by kernel_rfl) (@Go.Proofs.Ytkfclamiendamaa.pick_d (scx) ((nat_lit 256)) (by omega) (by first | rfl | decide | (constructor <;> omega) | (simp; done) | (simp; omega))) (by kernel_rfl) (by kernel_rfl) (by kernel_rfl) fun xx6 xh6 => ?_)
    try dsimp only at xh6
    obtain ⟨xh6_0, xh6_1⟩ := xh6
    refine Xg.acts Xg.owes_nil ?_
    refine Xg.any_int .i64 (IntKind.wrap .i64 (((↑xx6 : Int) + (↑xx4 : Int)))) 8 (by kernel_rfl) rfl (by kernel_rfl) (by kernel_rfl) (by kernel_rfl) (by kernel_rfl) rfl (fun _ => by kernel_rfl) (Xg.wrap_i64_in (by omega)) ?_
    refine Xg.any_each [9] (by kernel_rfl) rfl ⟨?_, trivial⟩
    refine Xg.comes_act rfl (by kernel_rfl) (by kernel_rfl) (Xg.opx_callE' [2] (fun xx7 => [rowR xx7.fst (145 : Int) (0 : Int) (↑xx7.snd.fst : Int) (↑xx7.snd.snd : Int) (0 : Int) (0 : Int) (0 : Int) (228 : Int) (0 : Int) (0 : Int) (0 : Int) (0 : Int), A, ints (5 : TypeId) IntKind.u8 xx2.fst xx2.snd.fst xx2.snd.snd, rowR xx1.fst (145 : Int) (0 : Int) (↑xx1.snd.fst : Int) (↑xx1.snd.snd : Int) (0 : Int) (0 : Int) (0 : Int) (228 : Int) (0 : Int) (0 : Int) (0 : Int) (0 : Int), row xb1 (36 : Nat) [Value.slice s.ra s.rn s.rc, Value.slice s.oa s.on s.oc, Value.slice s.pa s.pn s.pc]]) (fun _ => by kernel_rfl) (@hpl (((↑xx5 : Int) + (↑xx3 : Int))) (((↑xx6 : Int) + (↑xx4 : Int))) (by omega) (by omega)) (by kernel_rfl) (by kernel_rfl) (by kernel_rfl) fun xx7 xh7 => ?_)
    try dsimp only at xh7
    obtain ⟨xh7_0, xh7_1, xh7_2, xh7_3⟩ := xh7
    refine Xg.acts Xg.owes_nil ?_
    refine Xg.any_each [10] (by kernel_rfl) rfl ⟨?_, trivial⟩
    refine Xg.comes_act rfl (by kernel_rfl) (by kernel_rfl) (Xg.opx_callE' [0, 1] (fun xx8 => [ints (5 : TypeId) IntKind.u8 xx8.fst xx8.snd.fst xx8.snd.snd, rowR xx7.fst (145 : Int) (0 : Int) (↑xx7.snd.fst : Int) (↑xx7.snd.snd : Int) (0 : Int) (0 : Int) (0 : Int) (228 : Int) (0 : Int) (0 : Int) (0 : Int) (0 : Int), A, ints (5 : TypeId) IntKind.u8 xx2.fst xx2.snd.fst xx2.snd.snd, rowR xx1.fst (145 : Int) (0 : Int) (↑xx1.snd.fst : Int) (↑xx1.snd.snd : Int) (0 : Int) (0 : Int) (0 : Int) (228 : Int) (0 : Int) (0 : Int) (0 : Int) (0 : Int), row xb1 (36 : Nat) [Value.slice s.ra s.rn s.rc, Value.slice s.oa s.on s.oc, Value.slice s.pa s.pn s.pc]]) (fun _ => by kernel_rfl) (@hsh (xx7.fst) (xx7.snd.fst) (xx7.snd.snd) (by omega) (by omega)) (by kernel_rfl) (by kernel_rfl) (by kernel_rfl) fun xx8 xh8 => ?_)
    try dsimp only at xh8
    obtain ⟨xh8_0, xh8_1⟩ := xh8
    refine Xg.acts Xg.owes_nil ?_
    refine Xg.any_pure ((Value.tuple #[Value.slice xx8.fst xx8.snd.snd.length xx8.snd.fst, Value.bool true])) 11 (by kernel_rfl) rfl (by kernel_rfl) (by kernel_rfl) (by kernel_rfl) (by kernel_rfl) rfl (fun _ => by kernel_rfl) ?_
    refine Xg.any_pure ((Value.slice xx8.fst xx8.snd.snd.length xx8.snd.fst)) 12 (by kernel_rfl) rfl (by kernel_rfl) (by kernel_rfl) (by kernel_rfl) (by kernel_rfl) rfl (fun _ => by kernel_rfl) ?_
    refine Xg.any_pure ((Value.bool true)) 13 (by kernel_rfl) rfl (by kernel_rfl) (by kernel_rfl) (by kernel_rfl) (by kernel_rfl) rfl (fun _ => by kernel_rfl) ?_
    refine Xg.any_pure ((Value.slice xx8.fst xx8.snd.snd.length xx8.snd.fst)) 14 (by kernel_rfl) rfl (by kernel_rfl) (by kernel_rfl) (by kernel_rfl) (by kernel_rfl) rfl (fun _ => by kernel_rfl) ?_
    refine Xg.any_pure ((Value.bool true)) 15 (by kernel_rfl) rfl (by kernel_rfl) (by kernel_rfl) (by kernel_rfl) (by kernel_rfl) rfl (fun _ => by kernel_rfl) ?_
    refine Xg.any_nil (by kernel_rfl) ?_
    refine Xg.at_seq ?_
    refine Xg.at_seq ?_
    refine Xg.at_region ?_
    refine Xg.ops_op (by kernel_rfl) (Xg.opx_pure ((Value.bool true)) rfl (fun _ => by kernel_rfl) ?_)
    refine Xg.ops_op (by kernel_rfl) (Xg.opx_pure (.bool false) rfl (fun _ => by kernel_rfl) ?_)
    refine Xg.ops_op (by kernel_rfl) (Xg.opx_pure ((Value.bool false)) rfl (fun _ => by kernel_rfl) ?_)
    refine Xg.ops_op (by kernel_rfl) (Xg.opx_pure ((Value.bool true)) rfl (fun _ => by kernel_rfl) ?_)
    refine Xg.ops_op (by kernel_rfl) (Xg.opx_pure (.bool false) rfl (fun _ => by kernel_rfl) ?_)
    refine Xg.ops_op (by kernel_rfl) (Xg.opx_pure ((Value.bool false)) rfl (fun _ => by kernel_rfl) ?_)
    refine Xg.ops_nil ?_
    refine Xg.at_false (t := false) (by kernel_rfl) rfl ?_
    refine Xg.at_skip ?_
    refine Xg.at_seq ?_
    refine Xg.at_seq ?_
    refine Xg.at_region ?_
    refine Xg.ops_op (by kernel_rfl) (Xg.opx_pure ((iv 0)) rfl (fun _ => by kernel_rfl) ?_)
    refine Xg.ops_nil ?_
    refine Xg.at_block ?_
    rotate_left
    refine Xg.any_int .i64 (IntKind.wrap .i64 (((↑xx5 : Int) + (↑xx3 : Int)))) 4 (by kernel_rfl) rfl (by kernel_rfl) (by kernel_rfl) (by kernel_rfl) (by kernel_rfl) rfl (fun _ => by kernel_rfl) (Xg.wrap_i64_in (by omega)) ?_
    refine Xg.any_each [0, 6] (by kernel_rfl) rfl ⟨?_, ?_, trivial⟩
    refine Xg.comes_act rfl (by kernel_rfl) (by kernel_rfl) (Xg.opx_loadn (off := 0) 3 3 [Value.slice s.ra s.rn s.rc, Value.slice s.oa s.on s.oc, Value.slice s.pa s.pn s.pc] (by kernel_rfl) rfl (by kernel_rfl) rfl (Xg.cells_at (by kernel_rfl)) (by kernel_rfl) ?_)
    refine Xg.acts Xg.owes_nil ?_
    rotate_left
    refine Xg.comes_act rfl (by kernel_rfl) (by kernel_rfl) (Xg.opx_callE' [] (fun xx6 => [ints (5 : TypeId) IntKind.u8 xx2.fst xx2.snd.fst xx2.snd.snd, rowR xx1.fst (145 : Int) (0 : Int) (↑xx1.snd.fst : Int) (↑xx1.snd.snd : Int) (0 : Int) (0 : Int) (0 : Int) (228 : Int) (0 : Int) (0 : Int) (0 : Int) (0 : Int), A, row xb1 (36 : Nat) [Value.slice s.ra s.rn s.rc, Value.slice s.oa s.on s.oc, Value.slice s.pa s.pn s.pc]]) (fun _ => by kernel_rfl) (@Go.Proofs.Ytkfclamiendamaa.pick_d (scx) ((nat_lit 256)) (by omega) (by first | rfl | decide | (constructor <;> omega) | (simp; done) | (simp; omega))) (by kernel_rfl) (by kernel_rfl) (by kernel_rfl) fun xx6 xh6 => ?_)
    try dsimp only at xh6
    obtain ⟨xh6_0, xh6_1⟩ := xh6
    refine Xg.acts Xg.owes_nil ?_
    rotate_left
    rotate_left
    refine Xg.any_each [6] (by kernel_rfl) rfl ⟨?_, trivial⟩
    refine Xg.comes_act rfl (by kernel_rfl) (by kernel_rfl) (Xg.opx_callE' [] (fun xx6 => [ints (5 : TypeId) IntKind.u8 xx2.fst xx2.snd.fst xx2.snd.snd, rowR xx1.fst (145 : Int) (0 : Int) (↑xx1.snd.fst : Int) (↑xx1.snd.snd : Int) (0 : Int) (0 : Int) (0 : Int) (228 : Int) (0 : Int) (0 : Int) (0 : Int) (0 : Int), A, row xb1 (36 : Nat) [Value.slice s.ra s.rn s.rc, Value.slice s.oa s.on s.oc, Value.slice s.pa s.pn s.pc]]) (fun _ => by kernel_rfl) (@Go.Proofs.Ytkfclamiendamaa.pick_d (scx) ((nat_lit 256)) (by omega) (by first | rfl | decide | (constructor <;> omega) | (simp; done) | (simp; omega))) (by kernel_rfl) (by kernel_rfl) (by kernel_rfl) fun xx6 xh6 => ?_)
    try dsimp only at xh6
    obtain ⟨xh6_0, xh6_1⟩ := xh6
    refine Xg.acts Xg.owes_nil ?_
    refine Xg.any_int .i64 (IntKind.wrap .i64 (((↑xx6 : Int) + (↑xx4 : Int)))) 8 (by kernel_rfl) rfl (by kernel_rfl) (by kernel_rfl) (by kernel_rfl) (by kernel_rfl) rfl (fun _ => by kernel_rfl) (Xg.wrap_i64_in (by omega)) ?_
    refine Xg.any_each [9] (by kernel_rfl) rfl ⟨?_, trivial⟩
    refine Xg.comes_act rfl (by kernel_rfl) (by kernel_rfl) (Xg.opx_callE' [2] (fun xx7 => [rowR xx7.fst (145 : Int) (0 : Int) (↑xx7.snd.fst : Int) (↑xx7.snd.snd : Int) (0 : Int) (0 : Int) (0 : Int) (228 : Int) (0 : Int) (0 : Int) (0 : Int) (0 : Int), A, ints (5 : TypeId) IntKind.u8 xx2.fst xx2.snd.fst xx2.snd.snd, rowR xx1.fst (145 : Int) (0 : Int) (↑xx1.snd.fst : Int) (↑xx1.snd.snd : Int) (0 : Int) (0 : Int) (0 : Int) (228 : Int) (0 : Int) (0 : Int) (0 : Int) (0 : Int), row xb1 (36 : Nat) [Value.slice s.ra s.rn s.rc, Value.slice s.oa s.on s.oc, Value.slice s.pa s.pn s.pc]]) (fun _ => by kernel_rfl) (@hpl (((↑xx5 : Int) + (↑xx3 : Int))) (((↑xx6 : Int) + (↑xx4 : Int))) (by omega) (by omega)) (by kernel_rfl) (by kernel_rfl) (by kernel_rfl) fun xx7 xh7 => ?_)
    try dsimp only at xh7
    obtain ⟨xh7_0, xh7_1, xh7_2, xh7_3⟩ := xh7
    refine Xg.acts Xg.owes_nil ?_
    refine Xg.any_each [10] (by kernel_rfl) rfl ⟨?_, trivial⟩
    refine Xg.comes_act rfl (by kernel_rfl) (by kernel_rfl) (Xg.opx_callE' [0, 1] (fun xx8 => [ints (5 : TypeId) IntKind.u8 xx8.fst xx8.snd.fst xx8.snd.snd, rowR xx7.fst (145 : Int) (0 : Int) (↑xx7.snd.fst : Int) (↑xx7.snd.snd : Int) (0 : Int) (0 : Int) (0 : Int) (228 : Int) (0 : Int) (0 : Int) (0 : Int) (0 : Int), A, ints (5 : TypeId) IntKind.u8 xx2.fst xx2.snd.fst xx2.snd.snd, rowR xx1.fst (145 : Int) (0 : Int) (↑xx1.snd.fst : Int) (↑xx1.snd.snd : Int) (0 : Int) (0 : Int) (0 : Int) (228 : Int) (0 : Int) (0 : Int) (0 : Int) (0 : Int), row xb1 (36 : Nat) [Value.slice s.ra s.rn s.rc, Value.slice s.oa s.on s.oc, Value.slice s.pa s.pn s.pc]]) (fun _ => by kernel_rfl) (@hsh (xx7.fst) (xx7.snd.fst) (xx7.snd.snd) (by omega) (by omega)) (by kernel_rfl) (by kernel_rfl) (by kernel_rfl) fun xx8 xh8 => ?_)
    try dsimp only at xh8
    obtain ⟨xh8_0, xh8_1⟩ := xh8
    refine Xg.acts Xg.owes_nil ?_
    refine Xg.any_pure ((Value.tuple #[Value.slice xx8.fst xx8.snd.snd.length xx8.snd.fst, Value.bool true])) 11 (by kernel_rfl) rfl (by kernel_rfl) (by kernel_rfl) (by kernel_rfl) (by kernel_rfl) rfl (fun _ => by kernel_rfl) ?_
    refine Xg.any_pure ((Value.slice xx8.fst xx8.snd.snd.length xx8.snd.fst)) 12 (by kernel_rfl) rfl (by kernel_rfl) (by kernel_rfl) (by kernel_rfl) (by kernel_rfl) rfl (fun _ => by kernel_rfl) ?_
    refine Xg.any_pure ((Value.bool true)) 13 (by kernel_rfl) rfl (by kernel_rfl) (by kernel_rfl) (by kernel_rfl) (by kernel_rfl) rfl (fun _ => by kernel_rfl) ?_
    refine Xg.any_pure ((Value.slice xx8.fst xx8.snd.snd.length xx8.snd.fst)) 14 (by kernel_rfl) rfl (by kernel_rfl) (by kernel_rfl) (by kernel_rfl) (by kernel_rfl) rfl (fun _ => by kernel_rfl) ?_
    refine Xg.any_pure ((Value.bool true)) 15 (by kernel_rfl) rfl (by kernel_rfl) (by kernel_rfl) (by kernel_rfl) (by kernel_rfl) rfl (fun _ => by kernel_rfl) ?_
    refine Xg.any_nil (by kernel_rfl) ?_
    refine Xg.at_seq ?_
    refine Xg.at_seq ?_
    refine Xg.at_region ?_
    refine Xg.ops_op (by kernel_rfl) (Xg.opx_pure ((Value.bool true)) rfl (fun _ => by kernel_rfl) ?_)
    refine Xg.ops_op (by kernel_rfl) (Xg.opx_pure (.bool false) rfl (fun _ => by kernel_rfl) ?_)
    refine Xg.ops_op (by kernel_rfl) (Xg.opx_pure ((Value.bool false)) rfl (fun _ => by kernel_rfl) ?_)
    refine Xg.ops_op (by kernel_rfl) (Xg.opx_pure ((Value.bool true)) rfl (fun _ => by kernel_rfl) ?_)
    refine Xg.ops_op (by kernel_rfl) (Xg.opx_pure (.bool false) rfl (fun _ => by kernel_rfl) ?_)
    refine Xg.ops_op (by kernel_rfl) (Xg.opx_pure ((Value.bool false)) rfl (fun _ => by kernel_rfl) ?_)
    refine Xg.ops_nil ?_
    refine Xg.at_false (t := false) (by kernel_rfl) rfl ?_
    refine Xg.at_skip ?_
    refine Xg.at_seq ?_
    refine Xg.at_seq ?_
    refine Xg.at_region ?_
    refine Xg.ops_op (by kernel_rfl) (Xg.opx_pure ((iv 0)) rfl (fun _ => by kernel_rfl) ?_)
    refine Xg.ops_nil ?_
    refine Xg.at_block ?_
    rotate_left
    refine Xg.any_int .i64 (IntKind.wrap .i64 (((↑xx6 : Int) + (↑xx4 : Int)))) 8 (by kernel_rfl) rfl (by kernel_rfl) (by kernel_rfl) (by kernel_rfl) (by kernel_rfl) rfl (fun _ => by kernel_rfl) (Xg.wrap_i64_in (by omega)) ?_
    refine Xg.any_each [0] (by kernel_rfl) rfl ⟨?_, trivial⟩
    refine Xg.comes_act rfl (by kernel_rfl) (by kernel_rfl) (Xg.opx_loadn (off := 0) 3 3 [Value.slice s.ra s.rn s.rc, Value.slice s.oa s.on s.oc, Value.slice s.pa s.pn s.pc] (by kernel_rfl) rfl (by kernel_rfl) rfl (Xg.cells_at (by kernel_rfl)) (by kernel_rfl) ?_)
    refine Xg.acts Xg.owes_nil ?_
    refine Xg.any_each [9] (by kernel_rfl) rfl ⟨?_, trivial⟩
    refine Xg.comes_act rfl (by kernel_rfl) (by kernel_rfl) (Xg.opx_callE' [2] (fun xx7 => [rowR xx7.fst (145 : Int) (0 : Int) (↑xx7.snd.fst : Int) (↑xx7.snd.snd : Int) (0 : Int) (0 : Int) (0 : Int) (228 : Int) (0 : Int) (0 : Int) (0 : Int) (0 : Int), A, ints (5 : TypeId) IntKind.u8 xx2.fst xx2.snd.fst xx2.snd.snd, rowR xx1.fst (145 : Int) (0 : Int) (↑xx1.snd.fst : Int) (↑xx1.snd.snd : Int) (0 : Int) (0 : Int) (0 : Int) (228 : Int) (0 : Int) (0 : Int) (0 : Int) (0 : Int), row xb1 (36 : Nat) [Value.slice s.ra s.rn s.rc, Value.slice s.oa s.on s.oc, Value.slice s.pa s.pn s.pc]]) (fun _ => by kernel_rfl) (@hpl (((↑xx5 : Int) + (↑xx3 : Int))) (((↑xx6 : Int) + (↑xx4 : Int))) (by omega) (by omega)) (by kernel_rfl) (by kernel_rfl) (by kernel_rfl) fun xx7 xh7 => ?_)
    try dsimp only at xh7
    obtain ⟨xh7_0, xh7_1, xh7_2, xh7_3⟩ := xh7
    refine Xg.acts Xg.owes_nil ?_
    refine Xg.any_each [10] (by kernel_rfl) rfl ⟨?_, trivial⟩
    refine Xg.comes_act rfl (by kernel_rfl) (by kernel_rfl) (Xg.opx_callE' [0, 1] (fun xx8 => [ints (5 : TypeId) IntKind.u8 xx8.fst xx8.snd.fst xx8.snd.snd, rowR xx7.fst (145 : Int) (0 : Int) (↑xx7.snd.fst : Int) (↑xx7.snd.snd : Int) (0 : Int) (0 : Int) (0 : Int) (228 : Int) (0 : Int) (0 : Int) (0 : Int) (0 : Int), A, ints (5 : TypeId) IntKind.u8 xx2.fst xx2.snd.fst xx2.snd.snd, rowR xx1.fst (145 : Int) (0 : Int) (↑xx1.snd.fst : Int) (↑xx1.snd.snd : Int) (0 : Int) (0 : Int) (0 : Int) (228 : Int) (0 : Int) (0 : Int) (0 : Int) (0 : Int), row xb1 (36 : Nat) [Value.slice s.ra s.rn s.rc, Value.slice s.oa s.on s.oc, Value.slice s.pa s.pn s.pc]]) (fun _ => by kernel_rfl) (@hsh (xx7.fst) (xx7.snd.fst) (xx7.snd.snd) (by omega) (by omega)) (by kernel_rfl) (by kernel_rfl) (by kernel_rfl) fun xx8 xh8 => ?_)
    try dsimp only at xh8
    obtain ⟨xh8_0, xh8_1⟩ := xh8
    refine Xg.acts Xg.owes_nil ?_
    refine Xg.any_pure ((Value.tuple #[Value.slice xx8.fst xx8.snd.snd.length xx8.snd.fst, Value.bool true])) 11 (by kernel_rfl) rfl (by kernel_rfl) (by kernel_rfl) (by kernel_rfl) (by kernel_rfl) rfl (fun _ => by kernel_rfl) ?_
    refine Xg.any_pure ((Value.slice xx8.fst xx8.snd.snd.length xx8.snd.fst)) 12 (by kernel_rfl) rfl (by kernel_rfl) (by kernel_rfl) (by kernel_rfl) (by kernel_rfl) rfl (fun _ => by kernel_rfl) ?_
    refine Xg.any_pure ((Value.bool true)) 13 (by kernel_rfl) rfl (by kernel_rfl) (by kernel_rfl) (by kernel_rfl) (by kernel_rfl) rfl (fun _ => by kernel_rfl) ?_
    refine Xg.any_pure ((Value.slice xx8.fst xx8.snd.snd.length xx8.snd.fst)) 14 (by kernel_rfl) rfl (by kernel_rfl) (by kernel_rfl) (by kernel_rfl) (by kernel_rfl) rfl (fun _ => by kernel_rfl) ?_
    refine Xg.any_pure ((Value.bool true)) 15 (by kernel_rfl) rfl (by kernel_rfl) (by kernel_rfl) (by kernel_rfl) (by kernel_rfl) rfl (fun _ => by kernel_rfl) ?_
    refine Xg.any_nil (by kernel_rfl) ?_
    refine Xg.at_seq ?_
    refine Xg.at_seq ?_
    refine Xg.at_region ?_
    refine Xg.ops_op (by kernel_rfl) (Xg.opx_pure ((Value.bool true)) rfl (fun _ => by kernel_rfl) ?_)
    refine Xg.ops_op (by kernel_rfl) (Xg.opx_pure (.bool false) rfl (fun _ => by kernel_rfl) ?_)
    refine Xg.ops_op (by kernel_rfl) (Xg.opx_pure ((Value.bool false)) rfl (fun _ => by kernel_rfl) ?_)
    refine Xg.ops_op (by kernel_rfl) (Xg.opx_pure ((Value.bool true)) rfl (fun _ => by kernel_rfl) ?_)
    refine Xg.ops_op (by kernel_rfl) (Xg.opx_pure (.bool false) rfl (fun _ => by kernel_rfl) ?_)
    refine Xg.ops_op (by kernel_rfl) (Xg.opx_pure ((Value.bool false)) rfl (fun _ => by kernel_rfl) ?_)
    refine Xg.ops_nil ?_
    refine Xg.at_false (t := false) (by kernel_rfl) rfl ?_
    refine Xg.at_skip ?_
    refine Xg.at_seq ?_
    refine Xg.at_seq ?_
    refine Xg.at_region ?_
    refine Xg.ops_op (by kernel_rfl) (Xg.opx_pure ((iv 0)) rfl (fun _ => by kernel_rfl) ?_)
    refine Xg.ops_nil ?_
    refine Xg.at_block ?_)
  · have key : ∀ a b : Nat, pickN ((a : Int) + (b : Int)) 256 = (a + b) % 256 := fun a b => pickN_nat (a + b) 256 (by omega)
    have hY : xx7.2.1 = (xx1.2.1 + xx3) % 256 := by rw [xh7_0, key]; omega
    have hX : xx7.2.2 = (xx1.2.2 + xx4) % 256 := by rw [xh7_1, key]; omega
    have heq : ∀ y x : Nat, y + xx3 < 144 → x + xx4 < 160 → xx2.2.2.getD (160 * (y + xx3) + (x + xx4)) 0 = xx8.2.2.getD (160 * y + x) 0 := fun y x h1 h2 => by
      rw [xh2_0.pic (y + xx3) (x + xx4) h1 h2, xh8_0.pic y x (by omega) (by omega), plain_pic _ _ _ _ _ _ _ _ _ _ _ _ (by omega) (by omega) (by omega), plain_pic _ _ _ _ _ _ _ _ _ _ _ _ (by omega) (by omega) (by omega)]
      rw [show (((y + xx3 : Nat) : Int) + (xx1.2.1 : Int)) % 256 = ((y : Int) + (xx7.2.1 : Int)) % 256 from by omega, show (((x + xx4 : Nat) : Int) + (xx1.2.2 : Int)) % 256 = ((x : Int) + (xx7.2.2 : Int)) % 256 from by omega]
    clear hsh hpl
    (focus
      refine Xg.at_rounds_inv (α := (Nat) × (Nat → Value)) (fun x => ((fun x => x ≤ 144) : (Nat) → Prop) x.1) (fun x => ((fun x => 144 - x) : (Nat) → Nat) x.1) (fun x => Xg.headT [Value.agg #[Value.slice s.ra s.rn s.rc, Value.slice s.oa s.on s.oc, Value.slice s.pa s.pn s.pc], iv scy, iv scx, iv dy, iv dx, pv xb1 0, tu, tu, tu, tu, Value.bool false, Value.slice xx2.fst xx2.snd.snd.length xx2.snd.fst, Value.bool true, iv (↑xx3 : Int), iv (↑xx4 : Int), Value.slice xx8.fst xx8.snd.snd.length xx8.snd.fst, Value.bool true, iv 0, tu, Value.tuple #[Value.slice xx2.fst xx2.snd.snd.length xx2.snd.fst, Value.bool true], Value.agg #[Value.slice s.ra s.rn s.rc, Value.slice s.oa s.on s.oc, Value.slice s.pa s.pn s.pc], iv scy, iv scx, Value.agg #[Value.slice (some (Addr.mk xx1.fst (0 : Nat) none)) (12 : Nat) (12 : Nat), Value.slice none (0 : Nat) (0 : Nat), Value.slice s.pa s.pn s.pc], Value.tuple #[Value.slice xx2.fst xx2.snd.snd.length xx2.snd.fst, Value.bool true], Value.slice xx2.fst xx2.snd.snd.length xx2.snd.fst, Value.bool true, iv dy, iv (↑xx3 : Int), iv dx, iv (↑xx4 : Int), Value.tuple #[Value.slice xx8.fst xx8.snd.snd.length xx8.snd.fst, Value.bool true], Value.agg #[Value.slice s.ra s.rn s.rc, Value.slice s.oa s.on s.oc, Value.slice s.pa s.pn s.pc], iv scy, iv (↑xx5 : Int), iv (↑xx3 : Int), iv ((↑xx5 : Int) + (↑xx3 : Int)), iv scx, iv (↑xx6 : Int), iv (↑xx4 : Int), iv ((↑xx6 : Int) + (↑xx4 : Int)), Value.agg #[Value.slice (some (Addr.mk xx7.fst (0 : Nat) none)) (12 : Nat) (12 : Nat), Value.slice none (0 : Nat) (0 : Nat), Value.slice s.pa s.pn s.pc], Value.tuple #[Value.slice xx8.fst xx8.snd.snd.length xx8.snd.fst, Value.bool true], Value.slice xx8.fst xx8.snd.snd.length xx8.snd.fst, Value.bool true, Value.bool true, Value.bool false, Value.bool false, Value.bool true, Value.bool false, Value.bool false, tu, tu, tu, tu, tu, tu, tu, tu, tu, tu, tu, tu, tu, tu, tu, tu, tu, tu, tu, tu, tu, tu, tu, tu, tu, tu, tu, tu, tu, tu, tu] [10, 18, 51, 52, 53, 54, 55, 56, 57, 58, 59, 60, 61, 62, 63, 64, 65, 66, 67, 68, 69, 70, 71, 72, 73, 74, 75, 76, 77, 78, 79, 80, 81] (((fun x => [(17, .int .i64 (x : Nat))]) : (Nat) → List (Nat × Go.Value)) x.1) x.2) (fun x => ((fun x => [ints 5 .u8 xx8.1 xx8.2.1 xx8.2.2, rowR xx7.1 145 0 (xx7.2.1 : Nat) (xx7.2.2 : Nat) 0 0 0 228 0 0 0 0, A, ints 5 .u8 xx2.1 xx2.2.1 xx2.2.2, rowR xx1.1 145 0 (xx1.2.1 : Nat) (xx1.2.2 : Nat) 0 0 0 228 0 0 0 0, row xb1 36 [.slice s.ra s.rn s.rc, .slice s.oa s.on s.oc, .slice s.pa s.pn s.pc]]) : (Nat) → List Go.Sl.HP) x.1) ((0), fun j => ([Value.agg #[Value.slice s.ra s.rn s.rc, Value.slice s.oa s.on s.oc, Value.slice s.pa s.pn s.pc], iv scy, iv scx, iv dy, iv dx, pv xb1 0, tu, tu, tu, tu, Value.bool false, Value.slice xx2.fst xx2.snd.snd.length xx2.snd.fst, Value.bool true, iv (↑xx3 : Int), iv (↑xx4 : Int), Value.slice xx8.fst xx8.snd.snd.length xx8.snd.fst, Value.bool true, iv 0, tu, Value.tuple #[Value.slice xx2.fst xx2.snd.snd.length xx2.snd.fst, Value.bool true], Value.agg #[Value.slice s.ra s.rn s.rc, Value.slice s.oa s.on s.oc, Value.slice s.pa s.pn s.pc], iv scy, iv scx, Value.agg #[Value.slice (some (Addr.mk xx1.fst (0 : Nat) none)) (12 : Nat) (12 : Nat), Value.slice none (0 : Nat) (0 : Nat), Value.slice s.pa s.pn s.pc], Value.tuple #[Value.slice xx2.fst xx2.snd.snd.length xx2.snd.fst, Value.bool true], Value.slice xx2.fst xx2.snd.snd.length xx2.snd.fst, Value.bool true, iv dy, iv (↑xx3 : Int), iv dx, iv (↑xx4 : Int), Value.tuple #[Value.slice xx8.fst xx8.snd.snd.length xx8.snd.fst, Value.bool true], Value.agg #[Value.slice s.ra s.rn s.rc, Value.slice s.oa s.on s.oc, Value.slice s.pa s.pn s.pc], iv scy, iv (↑xx5 : Int), iv (↑xx3 : Int), iv ((↑xx5 : Int) + (↑xx3 : Int)), iv scx, iv (↑xx6 : Int), iv (↑xx4 : Int), iv ((↑xx6 : Int) + (↑xx4 : Int)), Value.agg #[Value.slice (some (Addr.mk xx7.fst (0 : Nat) none)) (12 : Nat) (12 : Nat), Value.slice none (0 : Nat) (0 : Nat), Value.slice s.pa s.pn s.pc], Value.tuple #[Value.slice xx8.fst xx8.snd.snd.length xx8.snd.fst, Value.bool true], Value.slice xx8.fst xx8.snd.snd.length xx8.snd.fst, Value.bool true, Value.bool true, Value.bool false, Value.bool false, Value.bool true, Value.bool false, Value.bool false, tu, tu, tu, tu, tu, tu, tu, tu, tu, tu, tu, tu, tu, tu, tu, tu, tu, tu, tu, tu, tu, tu, tu, tu, tu, tu, tu, tu, tu, tu, tu] : List Value).getD j undef) (by kernel_rfl) (by kernel_rfl) ?_ ?_)
    · exact Nat.zero_le _
    rintro ⟨y, J⟩ hy ih
    dsimp only at hy
    (focus
      refine Xg.At.same (T' := [Value.agg #[Value.slice s.ra s.rn s.rc, Value.slice s.oa s.on s.oc, Value.slice s.pa s.pn s.pc], iv scy, iv scx, iv dy, iv dx, pv xb1 0, tu, tu, tu, tu, J 10, Value.slice xx2.fst xx2.snd.snd.length xx2.snd.fst, Value.bool true, iv (↑xx3 : Int), iv (↑xx4 : Int), Value.slice xx8.fst xx8.snd.snd.length xx8.snd.fst, Value.bool true, iv (↑y : Int), J 18, Value.tuple #[Value.slice xx2.fst xx2.snd.snd.length xx2.snd.fst, Value.bool true], Value.agg #[Value.slice s.ra s.rn s.rc, Value.slice s.oa s.on s.oc, Value.slice s.pa s.pn s.pc], iv scy, iv scx, Value.agg #[Value.slice (some (Addr.mk xx1.fst (0 : Nat) none)) (12 : Nat) (12 : Nat), Value.slice none (0 : Nat) (0 : Nat), Value.slice s.pa s.pn s.pc], Value.tuple #[Value.slice xx2.fst xx2.snd.snd.length xx2.snd.fst, Value.bool true], Value.slice xx2.fst xx2.snd.snd.length xx2.snd.fst, Value.bool true, iv dy, iv (↑xx3 : Int), iv dx, iv (↑xx4 : Int), Value.tuple #[Value.slice xx8.fst xx8.snd.snd.length xx8.snd.fst, Value.bool true], Value.agg #[Value.slice s.ra s.rn s.rc, Value.slice s.oa s.on s.oc, Value.slice s.pa s.pn s.pc], iv scy, iv (↑xx5 : Int), iv (↑xx3 : Int), iv ((↑xx5 : Int) + (↑xx3 : Int)), iv scx, iv (↑xx6 : Int), iv (↑xx4 : Int), iv ((↑xx6 : Int) + (↑xx4 : Int)), Value.agg #[Value.slice (some (Addr.mk xx7.fst (0 : Nat) none)) (12 : Nat) (12 : Nat), Value.slice none (0 : Nat) (0 : Nat), Value.slice s.pa s.pn s.pc], Value.tuple #[Value.slice xx8.fst xx8.snd.snd.length xx8.snd.fst, Value.bool true], Value.slice xx8.fst xx8.snd.snd.length xx8.snd.fst, Value.bool true, Value.bool true, Value.bool false, Value.bool false, Value.bool true, Value.bool false, Value.bool false, J 51, J 52, J 53, J 54, J 55, J 56, J 57, J 58, J 59, J 60, J 61, J 62, J 63, J 64, J 65, J 66, J 67, J 68, J 69, J 70, J 71, J 72, J 73, J 74, J 75, J 76, J 77, J 78, J 79, J 80, J 81]) (L' := [ints (5 : TypeId) IntKind.u8 xx8.fst xx8.snd.fst xx8.snd.snd, rowR xx7.fst (145 : Int) (0 : Int) (↑xx7.snd.fst : Int) (↑xx7.snd.snd : Int) (0 : Int) (0 : Int) (0 : Int) (228 : Int) (0 : Int) (0 : Int) (0 : Int) (0 : Int), A, ints (5 : TypeId) IntKind.u8 xx2.fst xx2.snd.fst xx2.snd.snd, rowR xx1.fst (145 : Int) (0 : Int) (↑xx1.snd.fst : Int) (↑xx1.snd.snd : Int) (0 : Int) (0 : Int) (0 : Int) (228 : Int) (0 : Int) (0 : Int) (0 : Int) (0 : Int), row xb1 (36 : TypeId) [Value.slice s.ra s.rn s.rc, Value.slice s.oa s.on s.oc, Value.slice s.pa s.pn s.pc]]) (by kernel_rfl) rfl ?_)
    by_cases hlt : y + xx3 < 144
    · (focus
        refine Xg.at_seq ?_
        refine Xg.at_seq ?_
        refine Xg.at_region ?_
        refine Xg.ops_op (by kernel_rfl) (Xg.opx_pure ((iv (↑y : Int))) rfl (fun _ => by kernel_rfl) ?_)
        refine Xg.ops_op (by kernel_rfl) (Xg.opx_pure ((iv (↑xx3 : Int))) rfl (fun _ => by kernel_rfl) ?_)
        refine Xg.ops_op (by kernel_rfl) (Xg.opx_int .i64 (IntKind.wrap .i64 (((↑y : Int) + (↑xx3 : Int)))) rfl (fun _ => by kernel_rfl) (Xg.wrap_i64_in (by omega)) ?_)
        refine Xg.ops_op (by kernel_rfl) (Xg.opx_pure (.bool (decide ((((↑y : Int) + (↑xx3 : Int)) : Int) < ((144 : Int))))) rfl (fun _ => by kernel_rfl) ?_)
        refine Xg.ops_nil ?_
        refine Xg.at_true (t := decide (((↑y : Int) + (↑xx3 : Int) < (144 : Int)))) (by kernel_rfl) (decide_eq_true (by omega)) ?_
        refine Xg.at_skip ?_
        refine Xg.at_seq ?_
        refine Xg.at_block ?_
        refine Xg.at_seq ?_
        refine Xg.at_region ?_
        refine Xg.ops_op (by kernel_rfl) (Xg.opx_pure ((iv 0)) rfl (fun _ => by kernel_rfl) ?_)
        refine Xg.ops_nil ?_
        refine Xg.at_block ?_)
      (focus
        refine Xg.at_rounds_inv (α := (Nat) × (Nat → Value)) (fun x => ((fun x => x ≤ 160) : (Nat) → Prop) x.1) (fun x => ((fun x => 160 - x) : (Nat) → Nat) x.1) (fun x => Xg.headT [Value.agg #[Value.slice s.ra s.rn s.rc, Value.slice s.oa s.on s.oc, Value.slice s.pa s.pn s.pc], iv scy, iv scx, iv dy, iv dx, pv xb1 0, tu, tu, tu, tu, J 10, Value.slice xx2.fst xx2.snd.snd.length xx2.snd.fst, Value.bool true, iv (↑xx3 : Int), iv (↑xx4 : Int), Value.slice xx8.fst xx8.snd.snd.length xx8.snd.fst, Value.bool true, iv (↑y : Int), iv 0, Value.tuple #[Value.slice xx2.fst xx2.snd.snd.length xx2.snd.fst, Value.bool true], Value.agg #[Value.slice s.ra s.rn s.rc, Value.slice s.oa s.on s.oc, Value.slice s.pa s.pn s.pc], iv scy, iv scx, Value.agg #[Value.slice (some (Addr.mk xx1.fst (0 : Nat) none)) (12 : Nat) (12 : Nat), Value.slice none (0 : Nat) (0 : Nat), Value.slice s.pa s.pn s.pc], Value.tuple #[Value.slice xx2.fst xx2.snd.snd.length xx2.snd.fst, Value.bool true], Value.slice xx2.fst xx2.snd.snd.length xx2.snd.fst, Value.bool true, iv dy, iv (↑xx3 : Int), iv dx, iv (↑xx4 : Int), Value.tuple #[Value.slice xx8.fst xx8.snd.snd.length xx8.snd.fst, Value.bool true], Value.agg #[Value.slice s.ra s.rn s.rc, Value.slice s.oa s.on s.oc, Value.slice s.pa s.pn s.pc], iv scy, iv (↑xx5 : Int), iv (↑xx3 : Int), iv ((↑xx5 : Int) + (↑xx3 : Int)), iv scx, iv (↑xx6 : Int), iv (↑xx4 : Int), iv ((↑xx6 : Int) + (↑xx4 : Int)), Value.agg #[Value.slice (some (Addr.mk xx7.fst (0 : Nat) none)) (12 : Nat) (12 : Nat), Value.slice none (0 : Nat) (0 : Nat), Value.slice s.pa s.pn s.pc], Value.tuple #[Value.slice xx8.fst xx8.snd.snd.length xx8.snd.fst, Value.bool true], Value.slice xx8.fst xx8.snd.snd.length xx8.snd.fst, Value.bool true, Value.bool true, Value.bool false, Value.bool false, Value.bool true, Value.bool false, Value.bool false, iv (↑y : Int), iv (↑xx3 : Int), iv ((↑y : Int) + (↑xx3 : Int)), Value.bool (decide ((↑y : Int) + (↑xx3 : Int) < (144 : Int))), J 55, J 56, J 57, J 58, J 59, J 60, J 61, J 62, J 63, J 64, J 65, J 66, J 67, J 68, J 69, J 70, J 71, J 72, J 73, J 74, J 75, J 76, J 77, J 78, J 79, J 80, J 81] [10, 57, 58, 59, 60, 61, 62, 63, 64, 65, 66, 67, 68, 69, 70, 71, 72, 73, 74, 75, 76, 77, 78, 79, 80, 81] (((fun x => [(18, .int .i64 (x : Nat))]) : (Nat) → List (Nat × Go.Value)) x.1) x.2) (fun x => ((fun x => [ints 5 .u8 xx8.1 xx8.2.1 xx8.2.2, rowR xx7.1 145 0 (xx7.2.1 : Nat) (xx7.2.2 : Nat) 0 0 0 228 0 0 0 0, A, ints 5 .u8 xx2.1 xx2.2.1 xx2.2.2, rowR xx1.1 145 0 (xx1.2.1 : Nat) (xx1.2.2 : Nat) 0 0 0 228 0 0 0 0, row xb1 36 [.slice s.ra s.rn s.rc, .slice s.oa s.on s.oc, .slice s.pa s.pn s.pc]]) : (Nat) → List Go.Sl.HP) x.1) ((0), fun j => ([Value.agg #[Value.slice s.ra s.rn s.rc, Value.slice s.oa s.on s.oc, Value.slice s.pa s.pn s.pc], iv scy, iv scx, iv dy, iv dx, pv xb1 0, tu, tu, tu, tu, J 10, Value.slice xx2.fst xx2.snd.snd.length xx2.snd.fst, Value.bool true, iv (↑xx3 : Int), iv (↑xx4 : Int), Value.slice xx8.fst xx8.snd.snd.length xx8.snd.fst, Value.bool true, iv (↑y : Int), iv 0, Value.tuple #[Value.slice xx2.fst xx2.snd.snd.length xx2.snd.fst, Value.bool true], Value.agg #[Value.slice s.ra s.rn s.rc, Value.slice s.oa s.on s.oc, Value.slice s.pa s.pn s.pc], iv scy, iv scx, Value.agg #[Value.slice (some (Addr.mk xx1.fst (0 : Nat) none)) (12 : Nat) (12 : Nat), Value.slice none (0 : Nat) (0 : Nat), Value.slice s.pa s.pn s.pc], Value.tuple #[Value.slice xx2.fst xx2.snd.snd.length xx2.snd.fst, Value.bool true], Value.slice xx2.fst xx2.snd.snd.length xx2.snd.fst, Value.bool true, iv dy, iv (↑xx3 : Int), iv dx, iv (↑xx4 : Int), Value.tuple #[Value.slice xx8.fst xx8.snd.snd.length xx8.snd.fst, Value.bool true], Value.agg #[Value.slice s.ra s.rn s.rc, Value.slice s.oa s.on s.oc, Value.slice s.pa s.pn s.pc], iv scy, iv (↑xx5 : Int), iv (↑xx3 : Int), iv ((↑xx5 : Int) + (↑xx3 : Int)), iv scx, iv (↑xx6 : Int), iv (↑xx4 : Int), iv ((↑xx6 : Int) + (↑xx4 : Int)), Value.agg #[Value.slice (some (Addr.mk xx7.fst (0 : Nat) none)) (12 : Nat) (12 : Nat), Value.slice none (0 : Nat) (0 : Nat), Value.slice s.pa s.pn s.pc], Value.tuple #[Value.slice xx8.fst xx8.snd.snd.length xx8.snd.fst, Value.bool true], Value.slice xx8.fst xx8.snd.snd.length xx8.snd.fst, Value.bool true, Value.bool true, Value.bool false, Value.bool false, Value.bool true, Value.bool false, Value.bool false, iv (↑y : Int), iv (↑xx3 : Int), iv ((↑y : Int) + (↑xx3 : Int)), Value.bool (decide ((↑y : Int) + (↑xx3 : Int) < (144 : Int))), J 55, J 56, J 57, J 58, J 59, J 60, J 61, J 62, J 63, J 64, J 65, J 66, J 67, J 68, J 69, J 70, J 71, J 72, J 73, J 74, J 75, J 76, J 77, J 78, J 79, J 80, J 81] : List Value).getD j undef) (by kernel_rfl) (by kernel_rfl) ?_ ?_)
      · exact Nat.zero_le _
      rintro ⟨x, J2⟩ hx ih2
      dsimp only at hx
      (focus
        refine Xg.At.same (T' := [Value.agg #[Value.slice s.ra s.rn s.rc, Value.slice s.oa s.on s.oc, Value.slice s.pa s.pn s.pc], iv scy, iv scx, iv dy, iv dx, pv xb1 0, tu, tu, tu, tu, J2 10, Value.slice xx2.fst xx2.snd.snd.length xx2.snd.fst, Value.bool true, iv (↑xx3 : Int), iv (↑xx4 : Int), Value.slice xx8.fst xx8.snd.snd.length xx8.snd.fst, Value.bool true, iv (↑y : Int), iv (↑x : Int), Value.tuple #[Value.slice xx2.fst xx2.snd.snd.length xx2.snd.fst, Value.bool true], Value.agg #[Value.slice s.ra s.rn s.rc, Value.slice s.oa s.on s.oc, Value.slice s.pa s.pn s.pc], iv scy, iv scx, Value.agg #[Value.slice (some (Addr.mk xx1.fst (0 : Nat) none)) (12 : Nat) (12 : Nat), Value.slice none (0 : Nat) (0 : Nat), Value.slice s.pa s.pn s.pc], Value.tuple #[Value.slice xx2.fst xx2.snd.snd.length xx2.snd.fst, Value.bool true], Value.slice xx2.fst xx2.snd.snd.length xx2.snd.fst, Value.bool true, iv dy, iv (↑xx3 : Int), iv dx, iv (↑xx4 : Int), Value.tuple #[Value.slice xx8.fst xx8.snd.snd.length xx8.snd.fst, Value.bool true], Value.agg #[Value.slice s.ra s.rn s.rc, Value.slice s.oa s.on s.oc, Value.slice s.pa s.pn s.pc], iv scy, iv (↑xx5 : Int), iv (↑xx3 : Int), iv ((↑xx5 : Int) + (↑xx3 : Int)), iv scx, iv (↑xx6 : Int), iv (↑xx4 : Int), iv ((↑xx6 : Int) + (↑xx4 : Int)), Value.agg #[Value.slice (some (Addr.mk xx7.fst (0 : Nat) none)) (12 : Nat) (12 : Nat), Value.slice none (0 : Nat) (0 : Nat), Value.slice s.pa s.pn s.pc], Value.tuple #[Value.slice xx8.fst xx8.snd.snd.length xx8.snd.fst, Value.bool true], Value.slice xx8.fst xx8.snd.snd.length xx8.snd.fst, Value.bool true, Value.bool true, Value.bool false, Value.bool false, Value.bool true, Value.bool false, Value.bool false, iv (↑y : Int), iv (↑xx3 : Int), iv ((↑y : Int) + (↑xx3 : Int)), Value.bool (decide ((↑y : Int) + (↑xx3 : Int) < (144 : Int))), J 55, J 56, J2 57, J2 58, J2 59, J2 60, J2 61, J2 62, J2 63, J2 64, J2 65, J2 66, J2 67, J2 68, J2 69, J2 70, J2 71, J2 72, J2 73, J2 74, J2 75, J2 76, J2 77, J2 78, J2 79, J2 80, J2 81]) (L' := [ints (5 : TypeId) IntKind.u8 xx8.fst xx8.snd.fst xx8.snd.snd, rowR xx7.fst (145 : Int) (0 : Int) (↑xx7.snd.fst : Int) (↑xx7.snd.snd : Int) (0 : Int) (0 : Int) (0 : Int) (228 : Int) (0 : Int) (0 : Int) (0 : Int) (0 : Int), A, ints (5 : TypeId) IntKind.u8 xx2.fst xx2.snd.fst xx2.snd.snd, rowR xx1.fst (145 : Int) (0 : Int) (↑xx1.snd.fst : Int) (↑xx1.snd.snd : Int) (0 : Int) (0 : Int) (0 : Int) (228 : Int) (0 : Int) (0 : Int) (0 : Int) (0 : Int), row xb1 (36 : TypeId) [Value.slice s.ra s.rn s.rc, Value.slice s.oa s.on s.oc, Value.slice s.pa s.pn s.pc]]) (by kernel_rfl) rfl ?_)
      by_cases hlt2 : x + xx4 < 160
      · have he : xx2.2.2.getD (((y : Int) + (xx3 : Int)) * 160 + (x : Int) + (xx4 : Int)).toNat 0 = xx8.2.2.getD ((y : Int) * 160 + (x : Int)).toNat 0 := by
          rw [show (((y : Int) + (xx3 : Int)) * 160 + (x : Int) + (xx4 : Int)).toNat = 160 * (y + xx3) + (x + xx4) from by omega, show ((y : Int) * 160 + (x : Int)).toNat = 160 * y + x from by omega]
          exact heq y x hlt hlt2
        have hle : ((y : Int) + xx3) * 160 + x + xx4 < 23040 := by omega
        (focus
          refine Xg.at_seq ?_
          refine Xg.at_seq ?_
          refine Xg.at_region ?_
          refine Xg.ops_op (by kernel_rfl) (Xg.opx_pure ((iv (↑x : Int))) rfl (fun _ => by kernel_rfl) ?_)
          refine Xg.ops_op (by kernel_rfl) (Xg.opx_pure ((iv (↑xx4 : Int))) rfl (fun _ => by kernel_rfl) ?_)
          refine Xg.ops_op (by kernel_rfl) (Xg.opx_int .i64 (IntKind.wrap .i64 (((↑x : Int) + (↑xx4 : Int)))) rfl (fun _ => by kernel_rfl) (Xg.wrap_i64_in (by omega)) ?_)
          refine Xg.ops_op (by kernel_rfl) (Xg.opx_pure (.bool (decide ((((↑x : Int) + (↑xx4 : Int)) : Int) < ((160 : Int))))) rfl (fun _ => by kernel_rfl) ?_)
          refine Xg.ops_nil ?_
          refine Xg.at_true (t := decide (((↑x : Int) + (↑xx4 : Int) < (160 : Int)))) (by kernel_rfl) (decide_eq_true (by omega)) ?_
          refine Xg.at_skip ?_
          refine Xg.at_seq ?_
          refine Xg.at_block ?_
          refine Xg.at_seq ?_
          refine Xg.at_draw [] [(9, [0, 1, 2, 3, 4, 5, 6, 7, 8, 9, 11, 12, 13, 14, 15, 16, 17], (RdIs (1 : Nat) (Value.slice xx2.fst xx2.snd.snd.length xx2.snd.fst) xx2.snd.snd.length (List.map (Value.int IntKind.u8) xx2.snd.snd))), (10, [0, 1, 2, 3, 4, 5, 6, 7, 8, 9, 10, 11, 12, 13, 14, 15, 16, 17], (RdIs (1 : Nat) (Value.slice xx2.fst xx2.snd.snd.length xx2.snd.fst) xx2.snd.snd.length (List.map (Value.int IntKind.u8) xx2.snd.snd))), (16, [0, 1, 2, 3, 4, 5, 6, 7, 8, 9, 10, 11, 12, 13, 14, 15, 16], (RdIs (1 : Nat) (Value.slice xx8.fst xx8.snd.snd.length xx8.snd.fst) xx8.snd.snd.length (List.map (Value.int IntKind.u8) xx8.snd.snd))), (17, [0, 1, 2, 3, 4, 5, 6, 7, 8, 9, 10, 11, 12, 13, 14, 15, 16, 17], (RdIs (1 : Nat) (Value.slice xx8.fst xx8.snd.snd.length xx8.snd.fst) xx8.snd.snd.length (List.map (Value.int IntKind.u8) xx8.snd.snd)))] (by kernel_rfl) ?_
          refine Xg.any_pure ((Value.slice xx2.fst xx2.snd.snd.length xx2.snd.fst)) 0 (by kernel_rfl) rfl (by kernel_rfl) (by kernel_rfl) (by kernel_rfl) (by kernel_rfl) rfl (fun _ => by kernel_rfl) ?_
          refine Xg.any_pure ((iv (↑y : Int))) 1 (by kernel_rfl) rfl (by kernel_rfl) (by kernel_rfl) (by kernel_rfl) (by kernel_rfl) rfl (fun _ => by kernel_rfl) ?_
          refine Xg.any_pure ((iv (↑xx3 : Int))) 2 (by kernel_rfl) rfl (by kernel_rfl) (by kernel_rfl) (by kernel_rfl) (by kernel_rfl) rfl (fun _ => by kernel_rfl) ?_
          refine Xg.any_int .i64 (IntKind.wrap .i64 (((↑y : Int) + (↑xx3 : Int)))) 3 (by kernel_rfl) rfl (by kernel_rfl) (by kernel_rfl) (by kernel_rfl) (by kernel_rfl) rfl (fun _ => by kernel_rfl) (Xg.wrap_i64_in (by omega)) ?_
          refine Xg.any_int .i64 (IntKind.wrap .i64 ((((↑y : Int) + (↑xx3 : Int)) * (160 : Int)))) 4 (by kernel_rfl) rfl (by kernel_rfl) (by kernel_rfl) (by kernel_rfl) (by kernel_rfl) rfl (fun _ => by kernel_rfl) (Xg.wrap_i64_in (by omega)) ?_
          refine Xg.any_pure ((iv (↑x : Int))) 5 (by kernel_rfl) rfl (by kernel_rfl) (by kernel_rfl) (by kernel_rfl) (by kernel_rfl) rfl (fun _ => by kernel_rfl) ?_
          refine Xg.any_int .i64 (IntKind.wrap .i64 ((((↑y : Int) + (↑xx3 : Int)) * (160 : Int) + (↑x : Int)))) 6 (by kernel_rfl) rfl (by kernel_rfl) (by kernel_rfl) (by kernel_rfl) (by kernel_rfl) rfl (fun _ => by kernel_rfl) (Xg.wrap_i64_in (by omega)) ?_
          refine Xg.any_pure ((iv (↑xx4 : Int))) 7 (by kernel_rfl) rfl (by kernel_rfl) (by kernel_rfl) (by kernel_rfl) (by kernel_rfl) rfl (fun _ => by kernel_rfl) ?_
          refine Xg.any_int .i64 (IntKind.wrap .i64 ((((↑y : Int) + (↑xx3 : Int)) * (160 : Int) + (↑x : Int) + (↑xx4 : Int)))) 8 (by kernel_rfl) rfl (by kernel_rfl) (by kernel_rfl) (by kernel_rfl) (by kernel_rfl) rfl (fun _ => by kernel_rfl) (Xg.wrap_i64_in (by omega)) ?_
          refine Xg.any_reads (.pointer (some (Addr.mk (Xg.blk xx2.fst) (offA xx2.fst + (((↑y : Int) + (↑xx3 : Int)) * (160 : Int) + (↑x : Int) + (↑xx4 : Int)).toNat) none))) 9 0 (by kernel_rfl) rfl (by kernel_rfl) (by kernel_rfl) (by kernel_rfl) (by kernel_rfl) rfl rfl (by kernel_rfl) (Xg.rd_now 3 (Xg.reads_own (E := ((5 : TypeId))) (sz := ((1 : Nat))) (n := xx2.snd.snd.length) (c := xx2.snd.fst) (a := xx2.fst) (vs := (List.map (Value.int IntKind.u8) xx2.snd.snd))) (by kernel_rfl)) (Xg.run_ix_rd (elem := 5) (kd := .i64) (e := (((↑y : Int) + (↑xx3 : Int)) * (160 : Int) + (↑x : Int) + (↑xx4 : Int))) 1 ((((↑y : Int) + (↑xx3 : Int)) * (160 : Int) + (↑x : Int) + (↑xx4 : Int)).toNat) (offA xx2.fst + (((↑y : Int) + (↑xx3 : Int)) * (160 : Int) + (↑x : Int) + (↑xx4 : Int)).toNat) (by kernel_rfl) (by kernel_rfl) (by kernel_rfl) (by kernel_rfl) (by omega) (by omega) (by simp only [List.length_map]; omega) (by omega)) ?_
          refine Xg.any_reads (uv (xx2.snd.snd.getD (((↑y : Int) + (↑xx3 : Int)) * (160 : Int) + (↑x : Int) + (↑xx4 : Int)).toNat (0 : Int))) 10 1 (by kernel_rfl) rfl (by kernel_rfl) (by kernel_rfl) (by kernel_rfl) (by kernel_rfl) rfl rfl (by kernel_rfl) (Xg.rd_now 3 (Xg.reads_own (E := ((5 : TypeId))) (sz := ((1 : Nat))) (n := xx2.snd.snd.length) (c := xx2.snd.fst) (a := xx2.fst) (vs := (List.map (Value.int IntKind.u8) xx2.snd.snd))) (by kernel_rfl)) (Xg.run_load_rd (off0 := (offA xx2.fst + (((↑y : Int) + (↑xx3 : Int)) * (160 : Int) + (↑x : Int) + (↑xx4 : Int)).toNat)) ((((↑y : Int) + (↑xx3 : Int)) * (160 : Int) + (↑x : Int) + (↑xx4 : Int)).toNat) (by kernel_rfl) (by omega) (Xg.get_ints (by omega)) (by kernel_rfl)) ?_
          refine Xg.any_pure ((Value.slice xx8.fst xx8.snd.snd.length xx8.snd.fst)) 11 (by kernel_rfl) rfl (by kernel_rfl) (by kernel_rfl) (by kernel_rfl) (by kernel_rfl) rfl (fun _ => by kernel_rfl) ?_
          refine Xg.any_pure ((iv (↑y : Int))) 12 (by kernel_rfl) rfl (by kernel_rfl) (by kernel_rfl) (by kernel_rfl) (by kernel_rfl) rfl (fun _ => by kernel_rfl) ?_
          refine Xg.any_int .i64 (IntKind.wrap .i64 (((↑y : Int) * (160 : Int)))) 13 (by kernel_rfl) rfl (by kernel_rfl) (by kernel_rfl) (by kernel_rfl) (by kernel_rfl) rfl (fun _ => by kernel_rfl) (Xg.wrap_i64_in (by omega)) ?_
          refine Xg.any_pure ((iv (↑x : Int))) 14 (by kernel_rfl) rfl (by kernel_rfl) (by kernel_rfl) (by kernel_rfl) (by kernel_rfl) rfl (fun _ => by kernel_rfl) ?_
          refine Xg.any_int .i64 (IntKind.wrap .i64 (((↑y : Int) * (160 : Int) + (↑x : Int)))) 15 (by kernel_rfl) rfl (by kernel_rfl) (by kernel_rfl) (by kernel_rfl) (by kernel_rfl) rfl (fun _ => by kernel_rfl) (Xg.wrap_i64_in (by omega)) ?_
          refine Xg.any_reads (.pointer (some (Addr.mk (Xg.blk xx8.fst) (offA xx8.fst + ((↑y : Int) * (160 : Int) + (↑x : Int)).toNat) none))) 16 2 (by kernel_rfl) rfl (by kernel_rfl) (by kernel_rfl) (by kernel_rfl) (by kernel_rfl) rfl rfl (by kernel_rfl) (Xg.rd_now 0 (Xg.reads_own (E := ((5 : TypeId))) (sz := ((1 : Nat))) (n := xx8.snd.snd.length) (c := xx8.snd.fst) (a := xx8.fst) (vs := (List.map (Value.int IntKind.u8) xx8.snd.snd))) (by kernel_rfl)) (Xg.run_ix_rd (elem := 5) (kd := .i64) (e := ((↑y : Int) * (160 : Int) + (↑x : Int))) 1 (((↑y : Int) * (160 : Int) + (↑x : Int)).toNat) (offA xx8.fst + ((↑y : Int) * (160 : Int) + (↑x : Int)).toNat) (by kernel_rfl) (by kernel_rfl) (by kernel_rfl) (by kernel_rfl) (by omega) (by omega) (by simp only [List.length_map]; omega) (by omega)) ?_
          refine Xg.any_reads (uv (xx8.snd.snd.getD ((↑y : Int) * (160 : Int) + (↑x : Int)).toNat (0 : Int))) 17 3 (by kernel_rfl) rfl (by kernel_rfl) (by kernel_rfl) (by kernel_rfl) (by kernel_rfl) rfl rfl (by kernel_rfl) (Xg.rd_now 0 (Xg.reads_own (E := ((5 : TypeId))) (sz := ((1 : Nat))) (n := xx8.snd.snd.length) (c := xx8.snd.fst) (a := xx8.fst) (vs := (List.map (Value.int IntKind.u8) xx8.snd.snd))) (by kernel_rfl)) (Xg.run_load_rd (off0 := (offA xx8.fst + ((↑y : Int) * (160 : Int) + (↑x : Int)).toNat)) (((↑y : Int) * (160 : Int) + (↑x : Int)).toNat) (by kernel_rfl) (by omega) (Xg.get_ints (by omega)) (by kernel_rfl)) ?_
          refine Xg.any_pure (.bool (!decide (((xx2.snd.snd.getD (((↑y : Int) + (↑xx3 : Int)) * (160 : Int) + (↑x : Int) + (↑xx4 : Int)).toNat (0 : Int)) : Int) = (xx8.snd.snd.getD ((↑y : Int) * (160 : Int) + (↑x : Int)).toNat (0 : Int))))) 18 (by kernel_rfl) rfl (by kernel_rfl) (by kernel_rfl) (by kernel_rfl) (by kernel_rfl) rfl (fun _ => by kernel_rfl) ?_
          refine Xg.any_nil (by kernel_rfl) ?_
          refine Xg.at_false (t := !decide ((xx2.snd.snd.getD (((↑y : Int) + (↑xx3 : Int)) * (160 : Int) + (↑x : Int) + (↑xx4 : Int)).toNat (0 : Int) = xx8.snd.snd.getD ((↑y : Int) * (160 : Int) + (↑x : Int)).toNat (0 : Int)))) (by kernel_rfl) (by rw [decide_eq_true (by omega)]; rfl) ?_
          refine Xg.at_skip ?_
          refine Xg.at_inBlock ?_
          refine Xg.at_region ?_
          refine Xg.ops_op (by kernel_rfl) (Xg.opx_pure ((iv (↑x : Int))) rfl (fun _ => by kernel_rfl) ?_)
          refine Xg.ops_op (by kernel_rfl) (Xg.opx_int .i64 (IntKind.wrap .i64 (((↑x : Int) + (1 : Int)))) rfl (fun _ => by kernel_rfl) (Xg.wrap_i64_in (by omega)) ?_)
          refine Xg.ops_op (by kernel_rfl) (Xg.opx_pure ((iv ((↑x : Int) + (1 : Int)))) rfl (fun _ => by kernel_rfl) ?_)
          refine Xg.ops_nil ?_
          refine Xg.at_inLoop ?_)
        (focus
          refine Xg.at_keep [0, 1, 2, 3, 4, 5] (by kernel_rfl) ?_
          refine Xg.At.same (by kernel_rfl) ?_ (ih2 (((x + 1)), fun j => ([Value.agg #[Value.slice s.ra s.rn s.rc, Value.slice s.oa s.on s.oc, Value.slice s.pa s.pn s.pc], iv scy, iv scx, iv dy, iv dx, pv xb1 0, tu, tu, tu, tu, J2 10, Value.slice xx2.fst xx2.snd.snd.length xx2.snd.fst, Value.bool true, iv (↑xx3 : Int), iv (↑xx4 : Int), Value.slice xx8.fst xx8.snd.snd.length xx8.snd.fst, Value.bool true, iv (↑y : Int), iv ((↑x : Int) + (1 : Int)), Value.tuple #[Value.slice xx2.fst xx2.snd.snd.length xx2.snd.fst, Value.bool true], Value.agg #[Value.slice s.ra s.rn s.rc, Value.slice s.oa s.on s.oc, Value.slice s.pa s.pn s.pc], iv scy, iv scx, Value.agg #[Value.slice (some (Addr.mk xx1.fst (0 : Nat) none)) (12 : Nat) (12 : Nat), Value.slice none (0 : Nat) (0 : Nat), Value.slice s.pa s.pn s.pc], Value.tuple #[Value.slice xx2.fst xx2.snd.snd.length xx2.snd.fst, Value.bool true], Value.slice xx2.fst xx2.snd.snd.length xx2.snd.fst, Value.bool true, iv dy, iv (↑xx3 : Int), iv dx, iv (↑xx4 : Int), Value.tuple #[Value.slice xx8.fst xx8.snd.snd.length xx8.snd.fst, Value.bool true], Value.agg #[Value.slice s.ra s.rn s.rc, Value.slice s.oa s.on s.oc, Value.slice s.pa s.pn s.pc], iv scy, iv (↑xx5 : Int), iv (↑xx3 : Int), iv ((↑xx5 : Int) + (↑xx3 : Int)), iv scx, iv (↑xx6 : Int), iv (↑xx4 : Int), iv ((↑xx6 : Int) + (↑xx4 : Int)), Value.agg #[Value.slice (some (Addr.mk xx7.fst (0 : Nat) none)) (12 : Nat) (12 : Nat), Value.slice none (0 : Nat) (0 : Nat), Value.slice s.pa s.pn s.pc], Value.tuple #[Value.slice xx8.fst xx8.snd.snd.length xx8.snd.fst, Value.bool true], Value.slice xx8.fst xx8.snd.snd.length xx8.snd.fst, Value.bool true, Value.bool true, Value.bool false, Value.bool false, Value.bool true, Value.bool false, Value.bool false, iv (↑y : Int), iv (↑xx3 : Int), iv ((↑y : Int) + (↑xx3 : Int)), Value.bool (decide ((↑y : Int) + (↑xx3 : Int) < (144 : Int))), J 55, J 56, iv (↑x : Int), iv (↑xx4 : Int), iv ((↑x : Int) + (↑xx4 : Int)), Value.bool (decide ((↑x : Int) + (↑xx4 : Int) < (160 : Int))), iv (↑x : Int), iv ((↑x : Int) + (1 : Int)), Value.slice xx2.fst xx2.snd.snd.length xx2.snd.fst, iv (↑y : Int), iv (↑xx3 : Int), iv ((↑y : Int) + (↑xx3 : Int)), iv (((↑y : Int) + (↑xx3 : Int)) * (160 : Int)), iv (↑x : Int), iv (((↑y : Int) + (↑xx3 : Int)) * (160 : Int) + (↑x : Int)), iv (↑xx4 : Int), iv (((↑y : Int) + (↑xx3 : Int)) * (160 : Int) + (↑x : Int) + (↑xx4 : Int)), Value.pointer (some (Addr.mk (blk xx2.fst) (offA xx2.fst + (((↑y : Int) + (↑xx3 : Int)) * (160 : Int) + (↑x : Int) + (↑xx4 : Int)).toNat) none)), uv (xx2.snd.snd.getD (((↑y : Int) + (↑xx3 : Int)) * (160 : Int) + (↑x : Int) + (↑xx4 : Int)).toNat (0 : Int)), Value.slice xx8.fst xx8.snd.snd.length xx8.snd.fst, iv (↑y : Int), iv ((↑y : Int) * (160 : Int)), iv (↑x : Int), iv ((↑y : Int) * (160 : Int) + (↑x : Int)), Value.pointer (some (Addr.mk (blk xx8.fst) (offA xx8.fst + ((↑y : Int) * (160 : Int) + (↑x : Int)).toNat) none)), uv (xx8.snd.snd.getD ((↑y : Int) * (160 : Int) + (↑x : Int)).toNat (0 : Int)), Value.bool !decide (xx2.snd.snd.getD (((↑y : Int) + (↑xx3 : Int)) * (160 : Int) + (↑x : Int) + (↑xx4 : Int)).toNat (0 : Int) = xx8.snd.snd.getD ((↑y : Int) * (160 : Int) + (↑x : Int)).toNat (0 : Int))] : List Value).getD j undef) ?_ ?_))
        · rfl
        · dsimp only; omega
        · dsimp only; omega
      · clear ih2
        (focus
          refine Xg.at_seq ?_
          refine Xg.at_seq ?_
          refine Xg.at_region ?_
          refine Xg.ops_op (by kernel_rfl) (Xg.opx_pure ((iv (↑x : Int))) rfl (fun _ => by kernel_rfl) ?_)
          refine Xg.ops_op (by kernel_rfl) (Xg.opx_pure ((iv (↑xx4 : Int))) rfl (fun _ => by kernel_rfl) ?_)
          refine Xg.ops_op (by kernel_rfl) (Xg.opx_int .i64 (IntKind.wrap .i64 (((↑x : Int) + (↑xx4 : Int)))) rfl (fun _ => by kernel_rfl) (Xg.wrap_i64_in (by omega)) ?_)
          refine Xg.ops_op (by kernel_rfl) (Xg.opx_pure (.bool (decide ((((↑x : Int) + (↑xx4 : Int)) : Int) < ((160 : Int))))) rfl (fun _ => by kernel_rfl) ?_)
          refine Xg.ops_nil ?_
          refine Xg.at_false (t := decide (((↑x : Int) + (↑xx4 : Int) < (160 : Int)))) (by kernel_rfl) (decide_eq_false (by omega)) ?_
          refine Xg.at_exit rfl ?_
          refine Xg.at_inBlock ?_
          refine Xg.at_region ?_
          refine Xg.ops_op (by kernel_rfl) (Xg.opx_pure ((iv (↑y : Int))) rfl (fun _ => by kernel_rfl) ?_)
          refine Xg.ops_op (by kernel_rfl) (Xg.opx_int .i64 (IntKind.wrap .i64 (((↑y : Int) + (1 : Int)))) rfl (fun _ => by kernel_rfl) (Xg.wrap_i64_in (by omega)) ?_)
          refine Xg.ops_op (by kernel_rfl) (Xg.opx_pure ((iv ((↑y : Int) + (1 : Int)))) rfl (fun _ => by kernel_rfl) ?_)
          refine Xg.ops_nil ?_
          refine Xg.at_inLoop ?_)
        (focus
          refine Xg.at_keep [0, 1, 2, 3, 4, 5] (by kernel_rfl) ?_
          refine Xg.At.same (by kernel_rfl) ?_ (ih (((y + 1)), fun j => ([Value.agg #[Value.slice s.ra s.rn s.rc, Value.slice s.oa s.on s.oc, Value.slice s.pa s.pn s.pc], iv scy, iv scx, iv dy, iv dx, pv xb1 0, tu, tu, tu, tu, J2 10, Value.slice xx2.fst xx2.snd.snd.length xx2.snd.fst, Value.bool true, iv (↑xx3 : Int), iv (↑xx4 : Int), Value.slice xx8.fst xx8.snd.snd.length xx8.snd.fst, Value.bool true, iv ((↑y : Int) + (1 : Int)), iv (↑x : Int), Value.tuple #[Value.slice xx2.fst xx2.snd.snd.length xx2.snd.fst, Value.bool true], Value.agg #[Value.slice s.ra s.rn s.rc, Value.slice s.oa s.on s.oc, Value.slice s.pa s.pn s.pc], iv scy, iv scx, Value.agg #[Value.slice (some (Addr.mk xx1.fst (0 : Nat) none)) (12 : Nat) (12 : Nat), Value.slice none (0 : Nat) (0 : Nat), Value.slice s.pa s.pn s.pc], Value.tuple #[Value.slice xx2.fst xx2.snd.snd.length xx2.snd.fst, Value.bool true], Value.slice xx2.fst xx2.snd.snd.length xx2.snd.fst, Value.bool true, iv dy, iv (↑xx3 : Int), iv dx, iv (↑xx4 : Int), Value.tuple #[Value.slice xx8.fst xx8.snd.snd.length xx8.snd.fst, Value.bool true], Value.agg #[Value.slice s.ra s.rn s.rc, Value.slice s.oa s.on s.oc, Value.slice s.pa s.pn s.pc], iv scy, iv (↑xx5 : Int), iv (↑xx3 : Int), iv ((↑xx5 : Int) + (↑xx3 : Int)), iv scx, iv (↑xx6 : Int), iv (↑xx4 : Int), iv ((↑xx6 : Int) + (↑xx4 : Int)), Value.agg #[Value.slice (some (Addr.mk xx7.fst (0 : Nat) none)) (12 : Nat) (12 : Nat), Value.slice none (0 : Nat) (0 : Nat), Value.slice s.pa s.pn s.pc], Value.tuple #[Value.slice xx8.fst xx8.snd.snd.length xx8.snd.fst, Value.bool true], Value.slice xx8.fst xx8.snd.snd.length xx8.snd.fst, Value.bool true, Value.bool true, Value.bool false, Value.bool false, Value.bool true, Value.bool false, Value.bool false, iv (↑y : Int), iv (↑xx3 : Int), iv ((↑y : Int) + (↑xx3 : Int)), Value.bool (decide ((↑y : Int) + (↑xx3 : Int) < (144 : Int))), iv (↑y : Int), iv ((↑y : Int) + (1 : Int)), iv (↑x : Int), iv (↑xx4 : Int), iv ((↑x : Int) + (↑xx4 : Int)), Value.bool (decide ((↑x : Int) + (↑xx4 : Int) < (160 : Int))), J2 61, J2 62, J2 63, J2 64, J2 65, J2 66, J2 67, J2 68, J2 69, J2 70, J2 71, J2 72, J2 73, J2 74, J2 75, J2 76, J2 77, J2 78, J2 79, J2 80, J2 81] : List Value).getD j undef) ?_ ?_))
        · rfl
        · dsimp only; omega
        · dsimp only; omega
    · clear ih
      (focus
        refine Xg.at_seq ?_
        refine Xg.at_seq ?_
        refine Xg.at_region ?_
        refine Xg.ops_op (by kernel_rfl) (Xg.opx_pure ((iv (↑y : Int))) rfl (fun _ => by kernel_rfl) ?_)
        refine Xg.ops_op (by kernel_rfl) (Xg.opx_pure ((iv (↑xx3 : Int))) rfl (fun _ => by kernel_rfl) ?_)
        refine Xg.ops_op (by kernel_rfl) (Xg.opx_int .i64 (IntKind.wrap .i64 (((↑y : Int) + (↑xx3 : Int)))) rfl (fun _ => by kernel_rfl) (Xg.wrap_i64_in (by omega)) ?_)
        refine Xg.ops_op (by kernel_rfl) (Xg.opx_pure (.bool (decide ((((↑y : Int) + (↑xx3 : Int)) : Int) < ((144 : Int))))) rfl (fun _ => by kernel_rfl) ?_)
        refine Xg.ops_nil ?_
        refine Xg.at_false (t := decide (((↑y : Int) + (↑xx3 : Int) < (144 : Int)))) (by kernel_rfl) (decide_eq_false (by omega)) ?_
        refine Xg.at_exit rfl ?_
        refine Xg.at_seq ?_
        refine Xg.at_region ?_
        refine Xg.ops_op (by kernel_rfl) (Xg.opx_pure ((Value.bool true)) rfl (fun _ => by kernel_rfl) ?_)
        refine Xg.ops_nil ?_
        refine Xg.at_ret_ps (v := (Value.bool true)) [2] [A] Go.Proofs.Try.func6 (fun _ => by kernel_rfl) (by kernel_rfl) (by kernel_rfl) ?_
        exact ⟨by kernel_rfl, by kernel_rfl⟩)
  · have key : ∀ a b : Nat, pickN ((a : Int) + (b : Int)) 256 = (a + b) % 256 := fun a b => pickN_nat (a + b) 256 (by omega)
    have hY : xx7.2.1 = (xx1.2.1 + xx3) % 256 := by rw [xh7_0, key]; omega
    have hX : xx7.2.2 = (xx1.2.2 + xx4) % 256 := by rw [xh7_1, key]; omega
    have heq : ∀ y x : Nat, y + xx3 < 144 → x + xx4 < 160 → xx2.2.2.getD (160 * (y + xx3) + (x + xx4)) 0 = xx8.2.2.getD (160 * y + x) 0 := fun y x h1 h2 => by
      rw [xh2_0.pic (y + xx3) (x + xx4) h1 h2, xh8_0.pic y x (by omega) (by omega), plain_pic _ _ _ _ _ _ _ _ _ _ _ _ (by omega) (by omega) (by omega), plain_pic _ _ _ _ _ _ _ _ _ _ _ _ (by omega) (by omega) (by omega)]
      rw [show (((y + xx3 : Nat) : Int) + (xx1.2.1 : Int)) % 256 = ((y : Int) + (xx7.2.1 : Int)) % 256 from by omega, show (((x + xx4 : Nat) : Int) + (xx1.2.2 : Int)) % 256 = ((x : Int) + (xx7.2.2 : Int)) % 256 from by omega]
    clear hsh hpl
    (focus
      refine Xg.at_rounds_inv (α := (Nat) × (Nat → Value)) (fun x => ((fun x => x ≤ 144) : (Nat) → Prop) x.1) (fun x => ((fun x => 144 - x) : (Nat) → Nat) x.1) (fun x => Xg.headT [Value.agg #[Value.slice s.ra s.rn s.rc, Value.slice s.oa s.on s.oc, Value.slice s.pa s.pn s.pc], iv scy, iv scx, iv dy, iv dx, pv xb1 0, tu, tu, tu, tu, Value.bool false, Value.slice xx2.fst xx2.snd.snd.length xx2.snd.fst, Value.bool true, iv (↑xx3 : Int), iv (↑xx4 : Int), Value.slice xx8.fst xx8.snd.snd.length xx8.snd.fst, Value.bool true, iv 0, tu, Value.tuple #[Value.slice xx2.fst xx2.snd.snd.length xx2.snd.fst, Value.bool true], Value.agg #[Value.slice s.ra s.rn s.rc, Value.slice s.oa s.on s.oc, Value.slice s.pa s.pn s.pc], iv scy, iv scx, Value.agg #[Value.slice (some (Addr.mk xx1.fst (0 : Nat) none)) (12 : Nat) (12 : Nat), Value.slice none (0 : Nat) (0 : Nat), Value.slice s.pa s.pn s.pc], Value.tuple #[Value.slice xx2.fst xx2.snd.snd.length xx2.snd.fst, Value.bool true], Value.slice xx2.fst xx2.snd.snd.length xx2.snd.fst, Value.bool true, iv dy, iv (↑xx3 : Int), iv dx, iv (↑xx4 : Int), Value.tuple #[Value.slice xx8.fst xx8.snd.snd.length xx8.snd.fst, Value.bool true], Value.agg #[Value.slice s.ra s.rn s.rc, Value.slice s.oa s.on s.oc, Value.slice s.pa s.pn s.pc], iv scy, iv (↑xx5 : Int), iv (↑xx3 : Int), iv ((↑xx5 : Int) + (↑xx3 : Int)), iv scx, iv (↑xx6 : Int), iv (↑xx4 : Int), iv ((↑xx6 : Int) + (↑xx4 : Int)), Value.agg #[Value.slice (some (Addr.mk xx7.fst (0 : Nat) none)) (12 : Nat) (12 : Nat), Value.slice none (0 : Nat) (0 : Nat), Value.slice s.pa s.pn s.pc], Value.tuple #[Value.slice xx8.fst xx8.snd.snd.length xx8.snd.fst, Value.bool true], Value.slice xx8.fst xx8.snd.snd.length xx8.snd.fst, Value.bool true, Value.bool true, Value.bool false, Value.bool false, Value.bool true, Value.bool false, Value.bool false, tu, tu, tu, tu, tu, tu, tu, tu, tu, tu, tu, tu, tu, tu, tu, tu, tu, tu, tu, tu, tu, tu, tu, tu, tu, tu, tu, tu, tu, tu, tu] [10, 18, 51, 52, 53, 54, 55, 56, 57, 58, 59, 60, 61, 62, 63, 64, 65, 66, 67, 68, 69, 70, 71, 72, 73, 74, 75, 76, 77, 78, 79, 80, 81] (((fun x => [(17, .int .i64 (x : Nat))]) : (Nat) → List (Nat × Go.Value)) x.1) x.2) (fun x => ((fun x => [ints 5 .u8 xx8.1 xx8.2.1 xx8.2.2, rowR xx7.1 145 0 (xx7.2.1 : Nat) (xx7.2.2 : Nat) 0 0 0 228 0 0 0 0, A, ints 5 .u8 xx2.1 xx2.2.1 xx2.2.2, rowR xx1.1 145 0 (xx1.2.1 : Nat) (xx1.2.2 : Nat) 0 0 0 228 0 0 0 0, row xb1 36 [.slice s.ra s.rn s.rc, .slice s.oa s.on s.oc, .slice s.pa s.pn s.pc]]) : (Nat) → List Go.Sl.HP) x.1) ((0), fun j => ([Value.agg #[Value.slice s.ra s.rn s.rc, Value.slice s.oa s.on s.oc, Value.slice s.pa s.pn s.pc], iv scy, iv scx, iv dy, iv dx, pv xb1 0, tu, tu, tu, tu, Value.bool false, Value.slice xx2.fst xx2.snd.snd.length xx2.snd.fst, Value.bool true, iv (↑xx3 : Int), iv (↑xx4 : Int), Value.slice xx8.fst xx8.snd.snd.length xx8.snd.fst, Value.bool true, iv 0, tu, Value.tuple #[Value.slice xx2.fst xx2.snd.snd.length xx2.snd.fst, Value.bool true], Value.agg #[Value.slice s.ra s.rn s.rc, Value.slice s.oa s.on s.oc, Value.slice s.pa s.pn s.pc], iv scy, iv scx, Value.agg #[Value.slice (some (Addr.mk xx1.fst (0 : Nat) none)) (12 : Nat) (12 : Nat), Value.slice none (0 : Nat) (0 : Nat), Value.slice s.pa s.pn s.pc], Value.tuple #[Value.slice xx2.fst xx2.snd.snd.length xx2.snd.fst, Value.bool true], Value.slice xx2.fst xx2.snd.snd.length xx2.snd.fst, Value.bool true, iv dy, iv (↑xx3 : Int), iv dx, iv (↑xx4 : Int), Value.tuple #[Value.slice xx8.fst xx8.snd.snd.length xx8.snd.fst, Value.bool true], Value.agg #[Value.slice s.ra s.rn s.rc, Value.slice s.oa s.on s.oc, Value.slice s.pa s.pn s.pc], iv scy, iv (↑xx5 : Int), iv (↑xx3 : Int), iv ((↑xx5 : Int) + (↑xx3 : Int)), iv scx, iv (↑xx6 : Int), iv (↑xx4 : Int), iv ((↑xx6 : Int) + (↑xx4 : Int)), Value.agg #[Value.slice (some (Addr.mk xx7.fst (0 : Nat) none)) (12 : Nat) (12 : Nat), Value.slice none (0 : Nat) (0 : Nat), Value.slice s.pa s.pn s.pc], Value.tuple #[Value.slice xx8.fst xx8.snd.snd.length xx8.snd.fst, Value.bool true], Value.slice xx8.fst xx8.snd.snd.length xx8.snd.fst, Value.bool true, Value.bool true, Value.bool false, Value.bool false, Value.bool true, Value.bool false, Value.bool false, tu, tu, tu, tu, tu, tu, tu, tu, tu, tu, tu, tu, tu, tu, tu, tu, tu, tu, tu, tu, tu, tu, tu, tu, tu, tu, tu, tu, tu, tu, tu] : List Value).getD j undef) (by kernel_rfl) (by kernel_rfl) ?_ ?_)
    · exact Nat.zero_le _
    rintro ⟨y, J⟩ hy ih
    dsimp only at hy
    (focus
      refine Xg.At.same (T' := [Value.agg #[Value.slice s.ra s.rn s.rc, Value.slice s.oa s.on s.oc, Value.slice s.pa s.pn s.pc], iv scy, iv scx, iv dy, iv dx, pv xb1 0, tu, tu, tu, tu, J 10, Value.slice xx2.fst xx2.snd.snd.length xx2.snd.fst, Value.bool true, iv (↑xx3 : Int), iv (↑xx4 : Int), Value.slice xx8.fst xx8.snd.snd.length xx8.snd.fst, Value.bool true, iv (↑y : Int), J 18, Value.tuple #[Value.slice xx2.fst xx2.snd.snd.length xx2.snd.fst, Value.bool true], Value.agg #[Value.slice s.ra s.rn s.rc, Value.slice s.oa s.on s.oc, Value.slice s.pa s.pn s.pc], iv scy, iv scx, Value.agg #[Value.slice (some (Addr.mk xx1.fst (0 : Nat) none)) (12 : Nat) (12 : Nat), Value.slice none (0 : Nat) (0 : Nat), Value.slice s.pa s.pn s.pc], Value.tuple #[Value.slice xx2.fst xx2.snd.snd.length xx2.snd.fst, Value.bool true], Value.slice xx2.fst xx2.snd.snd.length xx2.snd.fst, Value.bool true, iv dy, iv (↑xx3 : Int), iv dx, iv (↑xx4 : Int), Value.tuple #[Value.slice xx8.fst xx8.snd.snd.length xx8.snd.fst, Value.bool true], Value.agg #[Value.slice s.ra s.rn s.rc, Value.slice s.oa s.on s.oc, Value.slice s.pa s.pn s.pc], iv scy, iv (↑xx5 : Int), iv (↑xx3 : Int), iv ((↑xx5 : Int) + (↑xx3 : Int)), iv scx, iv (↑xx6 : Int), iv (↑xx4 : Int), iv ((↑xx6 : Int) + (↑xx4 : Int)), Value.agg #[Value.slice (some (Addr.mk xx7.fst (0 : Nat) none)) (12 : Nat) (12 : Nat), Value.slice none (0 : Nat) (0 : Nat), Value.slice s.pa s.pn s.pc], Value.tuple #[Value.slice xx8.fst xx8.snd.snd.length xx8.snd.fst, Value.bool true], Value.slice xx8.fst xx8.snd.snd.length xx8.snd.fst, Value.bool true, Value.bool true, Value.bool false, Value.bool false, Value.bool true, Value.bool false, Value.bool false, J 51, J 52, J 53, J 54, J 55, J 56, J 57, J 58, J 59, J 60, J 61, J 62, J 63, J 64, J 65, J 66, J 67, J 68, J 69, J 70, J 71, J 72, J 73, J 74, J 75, J 76, J 77, J 78, J 79, J 80, J 81]) (L' := [ints (5 : TypeId) IntKind.u8 xx8.fst xx8.snd.fst xx8.snd.snd, rowR xx7.fst (145 : Int) (0 : Int) (↑xx7.snd.fst : Int) (↑xx7.snd.snd : Int) (0 : Int) (0 : Int) (0 : Int) (228 : Int) (0 : Int) (0 : Int) (0 : Int) (0 : Int), A, ints (5 : TypeId) IntKind.u8 xx2.fst xx2.snd.fst xx2.snd.snd, rowR xx1.fst (145 : Int) (0 : Int) (↑xx1.snd.fst : Int) (↑xx1.snd.snd : Int) (0 : Int) (0 : Int) (0 : Int) (228 : Int) (0 : Int) (0 : Int) (0 : Int) (0 : Int), row xb1 (36 : TypeId) [Value.slice s.ra s.rn s.rc, Value.slice s.oa s.on s.oc, Value.slice s.pa s.pn s.pc]]) (by kernel_rfl) rfl ?_)
    by_cases hlt : y + xx3 < 144
    · (focus
        refine Xg.at_seq ?_
        refine Xg.at_seq ?_
        refine Xg.at_region ?_
        refine Xg.ops_op (by kernel_rfl) (Xg.opx_pure ((iv (↑y : Int))) rfl (fun _ => by kernel_rfl) ?_)
        refine Xg.ops_op (by kernel_rfl) (Xg.opx_pure ((iv (↑xx3 : Int))) rfl (fun _ => by kernel_rfl) ?_)
        refine Xg.ops_op (by kernel_rfl) (Xg.opx_int .i64 (IntKind.wrap .i64 (((↑y : Int) + (↑xx3 : Int)))) rfl (fun _ => by kernel_rfl) (Xg.wrap_i64_in (by omega)) ?_)
        refine Xg.ops_op (by kernel_rfl) (Xg.opx_pure (.bool (decide ((((↑y : Int) + (↑xx3 : Int)) : Int) < ((144 : Int))))) rfl (fun _ => by kernel_rfl) ?_)
        refine Xg.ops_nil ?_
        refine Xg.at_true (t := decide (((↑y : Int) + (↑xx3 : Int) < (144 : Int)))) (by kernel_rfl) (decide_eq_true (by omega)) ?_
        refine Xg.at_skip ?_
        refine Xg.at_seq ?_
        refine Xg.at_block ?_
        refine Xg.at_seq ?_
        refine Xg.at_region ?_
        refine Xg.ops_op (by kernel_rfl) (Xg.opx_pure ((iv 0)) rfl (fun _ => by kernel_rfl) ?_)
        refine Xg.ops_nil ?_
        refine Xg.at_block ?_)
      (focus
        refine Xg.at_rounds_inv (α := (Nat) × (Nat → Value)) (fun x => ((fun x => x ≤ 160) : (Nat) → Prop) x.1) (fun x => ((fun x => 160 - x) : (Nat) → Nat) x.1) (fun x => Xg.headT [Value.agg #[Value.slice s.ra s.rn s.rc, Value.slice s.oa s.on s.oc, Value.slice s.pa s.pn s.pc], iv scy, iv scx, iv dy, iv dx, pv xb1 0, tu, tu, tu, tu, J 10, Value.slice xx2.fst xx2.snd.snd.length xx2.snd.fst, Value.bool true, iv (↑xx3 : Int), iv (↑xx4 : Int), Value.slice xx8.fst xx8.snd.snd.length xx8.snd.fst, Value.bool true, iv (↑y : Int), iv 0, Value.tuple #[Value.slice xx2.fst xx2.snd.snd.length xx2.snd.fst, Value.bool true], Value.agg #[Value.slice s.ra s.rn s.rc, Value.slice s.oa s.on s.oc, Value.slice s.pa s.pn s.pc], iv scy, iv scx, Value.agg #[Value.slice (some (Addr.mk xx1.fst (0 : Nat) none)) (12 : Nat) (12 : Nat), Value.slice none (0 : Nat) (0 : Nat), Value.slice s.pa s.pn s.pc], Value.tuple #[Value.slice xx2.fst xx2.snd.snd.length xx2.snd.fst, Value.bool true], Value.slice xx2.fst xx2.snd.snd.length xx2.snd.fst, Value.bool true, iv dy, iv (↑xx3 : Int), iv dx, iv (↑xx4 : Int), Value.tuple #[Value.slice xx8.fst xx8.snd.snd.length xx8.snd.fst, Value.bool true], Value.agg #[Value.slice s.ra s.rn s.rc, Value.slice s.oa s.on s.oc, Value.slice s.pa s.pn s.pc], iv scy, iv (↑xx5 : Int), iv (↑xx3 : Int), iv ((↑xx5 : Int) + (↑xx3 : Int)), iv scx, iv (↑xx6 : Int), iv (↑xx4 : Int), iv ((↑xx6 : Int) + (↑xx4 : Int)), Value.agg #[Value.slice (some (Addr.mk xx7.fst (0 : Nat) none)) (12 : Nat) (12 : Nat), Value.slice none (0 : Nat) (0 : Nat), Value.slice s.pa s.pn s.pc], Value.tuple #[Value.slice xx8.fst xx8.snd.snd.length xx8.snd.fst, Value.bool true], Value.slice xx8.fst xx8.snd.snd.length xx8.snd.fst, Value.bool true, Value.bool true, Value.bool false, Value.bool false, Value.bool true, Value.bool false, Value.bool false, iv (↑y : Int), iv (↑xx3 : Int), iv ((↑y : Int) + (↑xx3 : Int)), Value.bool (decide ((↑y : Int) + (↑xx3 : Int) < (144 : Int))), J 55, J 56, J 57, J 58, J 59, J 60, J 61, J 62, J 63, J 64, J 65, J 66, J 67, J 68, J 69, J 70, J 71, J 72, J 73, J 74, J 75, J 76, J 77, J 78, J 79, J 80, J 81] [10, 57, 58, 59, 60, 61, 62, 63, 64, 65, 66, 67, 68, 69, 70, 71, 72, 73, 74, 75, 76, 77, 78, 79, 80, 81] (((fun x => [(18, .int .i64 (x : Nat))]) : (Nat) → List (Nat × Go.Value)) x.1) x.2) (fun x => ((fun x => [ints 5 .u8 xx8.1 xx8.2.1 xx8.2.2, rowR xx7.1 145 0 (xx7.2.1 : Nat) (xx7.2.2 : Nat) 0 0 0 228 0 0 0 0, A, ints 5 .u8 xx2.1 xx2.2.1 xx2.2.2, rowR xx1.1 145 0 (xx1.2.1 : Nat) (xx1.2.2 : Nat) 0 0 0 228 0 0 0 0, row xb1 36 [.slice s.ra s.rn s.rc, .slice s.oa s.on s.oc, .slice s.pa s.pn s.pc]]) : (Nat) → List Go.Sl.HP) x.1) ((0), fun j => ([Value.agg #[Value.slice s.ra s.rn s.rc, Value.slice s.oa s.on s.oc, Value.slice s.pa s.pn s.pc], iv scy, iv scx, iv dy, iv dx, pv xb1 0, tu, tu, tu, tu, J 10, Value.slice xx2.fst xx2.snd.snd.length xx2.snd.fst, Value.bool true, iv (↑xx3 : Int), iv (↑xx4 : Int), Value.slice xx8.fst xx8.snd.snd.length xx8.snd.fst, Value.bool true, iv (↑y : Int), iv 0, Value.tuple #[Value.slice xx2.fst xx2.snd.snd.length xx2.snd.fst, Value.bool true], Value.agg #[Value.slice s.ra s.rn s.rc, Value.slice s.oa s.on s.oc, Value.slice s.pa s.pn s.pc], iv scy, iv scx, Value.agg #[Value.slice (some (Addr.mk xx1.fst (0 : Nat) none)) (12 : Nat) (12 : Nat), Value.slice none (0 : Nat) (0 : Nat), Value.slice s.pa s.pn s.pc], Value.tuple #[Value.slice xx2.fst xx2.snd.snd.length xx2.snd.fst, Value.bool true], Value.slice xx2.fst xx2.snd.snd.length xx2.snd.fst, Value.bool true, iv dy, iv (↑xx3 : Int), iv dx, iv (↑xx4 : Int), Value.tuple #[Value.slice xx8.fst xx8.snd.snd.length xx8.snd.fst, Value.bool true], Value.agg #[Value.slice s.ra s.rn s.rc, Value.slice s.oa s.on s.oc, Value.slice s.pa s.pn s.pc], iv scy, iv (↑xx5 : Int), iv (↑xx3 : Int), iv ((↑xx5 : Int) + (↑xx3 : Int)), iv scx, iv (↑xx6 : Int), iv (↑xx4 : Int), iv ((↑xx6 : Int) + (↑xx4 : Int)), Value.agg #[Value.slice (some (Addr.mk xx7.fst (0 : Nat) none)) (12 : Nat) (12 : Nat), Value.slice none (0 : Nat) (0 : Nat), Value.slice s.pa s.pn s.pc], Value.tuple #[Value.slice xx8.fst xx8.snd.snd.length xx8.snd.fst, Value.bool true], Value.slice xx8.fst xx8.snd.snd.length xx8.snd.fst, Value.bool true, Value.bool true, Value.bool false, Value.bool false, Value.bool true, Value.bool false, Value.bool false, iv (↑y : Int), iv (↑xx3 : Int), iv ((↑y : Int) + (↑xx3 : Int)), Value.bool (decide ((↑y : Int) + (↑xx3 : Int) < (144 : Int))), J 55, J 56, J 57, J 58, J 59, J 60, J 61, J 62, J 63, J 64, J 65, J 66, J 67, J 68, J 69, J 70, J 71, J 72, J 73, J 74, J 75, J 76, J 77, J 78, J 79, J 80, J 81] : List Value).getD j undef) (by kernel_rfl) (by kernel_rfl) ?_ ?_)
      · exact Nat.zero_le _
      rintro ⟨x, J2⟩ hx ih2
      dsimp only at hx
      (focus
        refine Xg.At.same (T' := [Value.agg #[Value.slice s.ra s.rn s.rc, Value.slice s.oa s.on s.oc, Value.slice s.pa s.pn s.pc], iv scy, iv scx, iv dy, iv dx, pv xb1 0, tu, tu, tu, tu, J2 10, Value.slice xx2.fst xx2.snd.snd.length xx2.snd.fst, Value.bool true, iv (↑xx3 : Int), iv (↑xx4 : Int), Value.slice xx8.fst xx8.snd.snd.length xx8.snd.fst, Value.bool true, iv (↑y : Int), iv (↑x : Int), Value.tuple #[Value.slice xx2.fst xx2.snd.snd.length xx2.snd.fst, Value.bool true], Value.agg #[Value.slice s.ra s.rn s.rc, Value.slice s.oa s.on s.oc, Value.slice s.pa s.pn s.pc], iv scy, iv scx, Value.agg #[Value.slice (some (Addr.mk xx1.fst (0 : Nat) none)) (12 : Nat) (12 : Nat), Value.slice none (0 : Nat) (0 : Nat), Value.slice s.pa s.pn s.pc], Value.tuple #[Value.slice xx2.fst xx2.snd.snd.length xx2.snd.fst, Value.bool true], Value.slice xx2.fst xx2.snd.snd.length xx2.snd.fst, Value.bool true, iv dy, iv (↑xx3 : Int), iv dx, iv (↑xx4 : Int), Value.tuple #[Value.slice xx8.fst xx8.snd.snd.length xx8.snd.fst, Value.bool true], Value.agg #[Value.slice s.ra s.rn s.rc, Value.slice s.oa s.on s.oc, Value.slice s.pa s.pn s.pc], iv scy, iv (↑xx5 : Int), iv (↑xx3 : Int), iv ((↑xx5 : Int) + (↑xx3 : Int)), iv scx, iv (↑xx6 : Int), iv (↑xx4 : Int), iv ((↑xx6 : Int) + (↑xx4 : Int)), Value.agg #[Value.slice (some (Addr.mk xx7.fst (0 : Nat) none)) (12 : Nat) (12 : Nat), Value.slice none (0 : Nat) (0 : Nat), Value.slice s.pa s.pn s.pc], Value.tuple #[Value.slice xx8.fst xx8.snd.snd.length xx8.snd.fst, Value.bool true], Value.slice xx8.fst xx8.snd.snd.length xx8.snd.fst, Value.bool true, Value.bool true, Value.bool false, Value.bool false, Value.bool true, Value.bool false, Value.bool false, iv (↑y : Int), iv (↑xx3 : Int), iv ((↑y : Int) + (↑xx3 : Int)), Value.bool (decide ((↑y : Int) + (↑xx3 : Int) < (144 : Int))), J 55, J 56, J2 57, J2 58, J2 59, J2 60, J2 61, J2 62, J2 63, J2 64, J2 65, J2 66, J2 67, J2 68, J2 69, J2 70, J2 71, J2 72, J2 73, J2 74, J2 75, J2 76, J2 77, J2 78, J2 79, J2 80, J2 81]) (L' := [ints (5 : TypeId) IntKind.u8 xx8.fst xx8.snd.fst xx8.snd.snd, rowR xx7.fst (145 : Int) (0 : Int) (↑xx7.snd.fst : Int) (↑xx7.snd.snd : Int) (0 : Int) (0 : Int) (0 : Int) (228 : Int) (0 : Int) (0 : Int) (0 : Int) (0 : Int), A, ints (5 : TypeId) IntKind.u8 xx2.fst xx2.snd.fst xx2.snd.snd, rowR xx1.fst (145 : Int) (0 : Int) (↑xx1.snd.fst : Int) (↑xx1.snd.snd : Int) (0 : Int) (0 : Int) (0 : Int) (228 : Int) (0 : Int) (0 : Int) (0 : Int) (0 : Int), row xb1 (36 : TypeId) [Value.slice s.ra s.rn s.rc, Value.slice s.oa s.on s.oc, Value.slice s.pa s.pn s.pc]]) (by kernel_rfl) rfl ?_)
      by_cases hlt2 : x + xx4 < 160
      · have he : xx2.2.2.getD (((y : Int) + (xx3 : Int)) * 160 + (x : Int) + (xx4 : Int)).toNat 0 = xx8.2.2.getD ((y : Int) * 160 + (x : Int)).toNat 0 := by
          rw [show (((y : Int) + (xx3 : Int)) * 160 + (x : Int) + (xx4 : Int)).toNat = 160 * (y + xx3) + (x + xx4) from by omega, show ((y : Int) * 160 + (x : Int)).toNat = 160 * y + x from by omega]
          exact heq y x hlt hlt2
        have hle : ((y : Int) + xx3) * 160 + x + xx4 < 23040 := by omega
        (focus
          refine Xg.at_seq ?_
          refine Xg.at_seq ?_
          refine Xg.at_region ?_
          refine Xg.ops_op (by kernel_rfl) (Xg.opx_pure ((iv (↑x : Int))) rfl (fun _ => by kernel_rfl) ?_)
          refine Xg.ops_op (by kernel_rfl) (Xg.opx_pure ((iv (↑xx4 : Int))) rfl (fun _ => by kernel_rfl) ?_)
          refine Xg.ops_op (by kernel_rfl) (Xg.opx_int .i64 (IntKind.wrap .i64 (((↑x : Int) + (↑xx4 : Int)))) rfl (fun _ => by kernel_rfl) (Xg.wrap_i64_in (by omega)) ?_)
          refine Xg.ops_op (by kernel_rfl) (Xg.opx_pure (.bool (decide ((((↑x : Int) + (↑xx4 : Int)) : Int) < ((160 : Int))))) rfl (fun _ => by kernel_rfl) ?_)
          refine Xg.ops_nil ?_
          refine Xg.at_true (t := decide (((↑x : Int) + (↑xx4 : Int) < (160 : Int)))) (by kernel_rfl) (decide_eq_true (by omega)) ?_
          refine Xg.at_skip ?_
          refine Xg.at_seq ?_
          refine Xg.at_block ?_
          refine Xg.at_seq ?_
          refine Xg.at_draw [] [(9, [0, 1, 2, 3, 4, 5, 6, 7, 8, 9, 11, 12, 13, 14, 15, 16, 17], (RdIs (1 : Nat) (Value.slice xx2.fst xx2.snd.snd.length xx2.snd.fst) xx2.snd.snd.length (List.map (Value.int IntKind.u8) xx2.snd.snd))), (10, [0, 1, 2, 3, 4, 5, 6, 7, 8, 9, 10, 11, 12, 13, 14, 15, 16, 17], (RdIs (1 : Nat) (Value.slice xx2.fst xx2.snd.snd.length xx2.snd.fst) xx2.snd.snd.length (List.map (Value.int IntKind.u8) xx2.snd.snd))), (16, [0, 1, 2, 3, 4, 5, 6, 7, 8, 9, 10, 11, 12, 13, 14, 15, 16], (RdIs (1 : Nat) (Value.slice xx8.fst xx8.snd.snd.length xx8.snd.fst) xx8.snd.snd.length (List.map (Value.int IntKind.u8) xx8.snd.snd))), (17, [0, 1, 2, 3, 4, 5, 6, 7, 8, 9, 10, 11, 12, 13, 14, 15, 16, 17], (RdIs (1 : Nat) (Value.slice xx8.fst xx8.snd.snd.length xx8.snd.fst) xx8.snd.snd.length (List.map (Value.int IntKind.u8) xx8.snd.snd)))] (by kernel_rfl) ?_
          refine Xg.any_pure ((Value.slice xx2.fst xx2.snd.snd.length xx2.snd.fst)) 0 (by kernel_rfl) rfl (by kernel_rfl) (by kernel_rfl) (by kernel_rfl) (by kernel_rfl) rfl (fun _ => by kernel_rfl) ?_
          refine Xg.any_pure ((iv (↑y : Int))) 1 (by kernel_rfl) rfl (by kernel_rfl) (by kernel_rfl) (by kernel_rfl) (by kernel_rfl) rfl (fun _ => by kernel_rfl) ?_
          refine Xg.any_pure ((iv (↑xx3 : Int))) 2 (by kernel_rfl) rfl (by kernel_rfl) (by kernel_rfl) (by kernel_rfl) (by kernel_rfl) rfl (fun _ => by kernel_rfl) ?_
          refine Xg.any_int .i64 (IntKind.wrap .i64 (((↑y : Int) + (↑xx3 : Int)))) 3 (by kernel_rfl) rfl (by kernel_rfl) (by kernel_rfl) (by kernel_rfl) (by kernel_rfl) rfl (fun _ => by kernel_rfl) (Xg.wrap_i64_in (by omega)) ?_
          refine Xg.any_int .i64 (IntKind.wrap .i64 ((((↑y : Int) + (↑xx3 : Int)) * (160 : Int)))) 4 (by kernel_rfl) rfl (by kernel_rfl) (by kernel_rfl) (by kernel_rfl) (by kernel_rfl) rfl (fun _ => by kernel_rfl) (Xg.wrap_i64_in (by omega)) ?_
          refine Xg.any_pure ((iv (↑x : Int))) 5 (by kernel_rfl) rfl (by kernel_rfl) (by kernel_rfl) (by kernel_rfl) (by kernel_rfl) rfl (fun _ => by kernel_rfl) ?_
          refine Xg.any_int .i64 (IntKind.wrap .i64 ((((↑y : Int) + (↑xx3 : Int)) * (160 : Int) + (↑x : Int)))) 6 (by kernel_rfl) rfl (by kernel_rfl) (by kernel_rfl) (by kernel_rfl) (by kernel_rfl) rfl (fun _ => by kernel_rfl) (Xg.wrap_i64_in (by omega)) ?_
          refine Xg.any_pure ((iv (↑xx4 : Int))) 7 (by kernel_rfl) rfl (by kernel_rfl) (by kernel_rfl) (by kernel_rfl) (by kernel_rfl) rfl (fun _ => by kernel_rfl) ?_
          refine Xg.any_int .i64 (IntKind.wrap .i64 ((((↑y : Int) + (↑xx3 : Int)) * (160 : Int) + (↑x : Int) + (↑xx4 : Int)))) 8 (by kernel_rfl) rfl (by kernel_rfl) (by kernel_rfl) (by kernel_rfl) (by kernel_rfl) rfl (fun _ => by kernel_rfl) (Xg.wrap_i64_in (by omega)) ?_
          refine Xg.any_reads (.pointer (some (Addr.mk (Xg.blk xx2.fst) (offA xx2.fst + (((↑y : Int) + (↑xx3 : Int)) * (160 : Int) + (↑x : Int) + (↑xx4 : Int)).toNat) none))) 9 0 (by kernel_rfl) rfl (by kernel_rfl) (by kernel_rfl) (by kernel_rfl) (by kernel_rfl) rfl rfl (by kernel_rfl) (Xg.rd_now 3 (Xg.reads_own (E := ((5 : TypeId))) (sz := ((1 : Nat))) (n := xx2.snd.snd.length) (c := xx2.snd.fst) (a := xx2.fst) (vs := (List.map (Value.int IntKind.u8) xx2.snd.snd))) (by kernel_rfl)) (Xg.run_ix_rd (elem := 5) (kd := .i64) (e := (((↑y : Int) + (↑xx3 : Int)) * (160 : Int) + (↑x : Int) + (↑xx4 : Int))) 1 ((((↑y : Int) + (↑xx3 : Int)) * (160 : Int) + (↑x : Int) + (↑xx4 : Int)).toNat) (offA xx2.fst + (((↑y : Int) + (↑xx3 : Int)) * (160 : Int) + (↑x : Int) + (↑xx4 : Int)).toNat) (by kernel_rfl) (by kernel_rfl) (by kernel_rfl) (by kernel_rfl) (by omega) (by omega) (by simp only [List.length_map]; omega) (by omega)) ?_
          refine Xg.any_reads (uv (xx2.snd.snd.getD (((↑y : Int) + (↑xx3 : Int)) * (160 : Int) + (↑x : Int) + (↑xx4 : Int)).toNat (0 : Int))) 10 1 (by kernel_rfl) rfl (by kernel_rfl) (by kernel_rfl) (by kernel_rfl) (by kernel_rfl) rfl rfl (by kernel_rfl) (Xg.rd_now 3 (Xg.reads_own (E := ((5 : TypeId))) (sz := ((1 : Nat))) (n := xx2.snd.snd.length) (c := xx2.snd.fst) (a := xx2.fst) (vs := (List.map (Value.int IntKind.u8) xx2.snd.snd))) (by kernel_rfl)) (Xg.run_load_rd (off0 := (offA xx2.fst + (((↑y : Int) + (↑xx3 : Int)) * (160 : Int) + (↑x : Int) + (↑xx4 : Int)).toNat)) ((((↑y : Int) + (↑xx3 : Int)) * (160 : Int) + (↑x : Int) + (↑xx4 : Int)).toNat) (by kernel_rfl) (by omega) (Xg.get_ints (by omega)) (by kernel_rfl)) ?_
          refine Xg.any_pure ((Value.slice xx8.fst xx8.snd.snd.length xx8.snd.fst)) 11 (by kernel_rfl) rfl (by kernel_rfl) (by kernel_rfl) (by kernel_rfl) (by kernel_rfl) rfl (fun _ => by kernel_rfl) ?_
          refine Xg.any_pure ((iv (↑y : Int))) 12 (by kernel_rfl) rfl (by kernel_rfl) (by kernel_rfl) (by kernel_rfl) (by kernel_rfl) rfl (fun _ => by kernel_rfl) ?_
          refine Xg.any_int .i64 (IntKind.wrap .i64 (((↑y : Int) * (160 : Int)))) 13 (by kernel_rfl) rfl (by kernel_rfl) (by kernel_rfl) (by kernel_rfl) (by kernel_rfl) rfl (fun _ => by kernel_rfl) (Xg.wrap_i64_in (by omega)) ?_
          refine Xg.any_pure ((iv (↑x : Int))) 14 (by kernel_rfl) rfl (by kernel_rfl) (by kernel_rfl) (by kernel_rfl) (by kernel_rfl) rfl (fun _ => by kernel_rfl) ?_
          refine Xg.any_int .i64 (IntKind.wrap .i64 (((↑y : Int) * (160 : Int) + (↑x : Int)))) 15 (by kernel_rfl) rfl (by kernel_rfl) (by kernel_rfl) (by kernel_rfl) (by kernel_rfl) rfl (fun _ => by kernel_rfl) (Xg.wrap_i64_in (by omega)) ?_
          refine Xg.any_reads (.pointer (some (Addr.mk (Xg.blk xx8.fst) (offA xx8.fst + ((↑y : Int) * (160 : Int) + (↑x : Int)).toNat) none))) 16 2 (by kernel_rfl) rfl (by kernel_rfl) (by kernel_rfl) (by kernel_rfl) (by kernel_rfl) rfl rfl (by kernel_rfl) (Xg.rd_now 0 (Xg.reads_own (E := ((5 : TypeId))) (sz := ((1 : Nat))) (n := xx8.snd.snd.length) (c := xx8.snd.fst) (a := xx8.fst) (vs := (List.map (Value.int IntKind.u8) xx8.snd.snd))) (by kernel_rfl)) (Xg.run_ix_rd (elem := 5) (kd := .i64) (e := ((↑y : Int) * (160 : Int) + (↑x : Int))) 1 (((↑y : Int) * (160 : Int) + (↑x : Int)).toNat) (offA xx8.fst + ((↑y : Int) * (160 : Int) + (↑x : Int)).toNat) (by kernel_rfl) (by kernel_rfl) (by kernel_rfl) (by kernel_rfl) (by omega) (by omega) (by simp only [List.length_map]; omega) (by omega)) ?_
          refine Xg.any_reads (uv (xx8.snd.snd.getD ((↑y : Int) * (160 : Int) + (↑x : Int)).toNat (0 : Int))) 17 3 (by kernel_rfl) rfl (by kernel_rfl) (by kernel_rfl) (by kernel_rfl) (by kernel_rfl) rfl rfl (by kernel_rfl) (Xg.rd_now 0 (Xg.reads_own (E := ((5 : TypeId))) (sz := ((1 : Nat))) (n := xx8.snd.snd.length) (c := xx8.snd.fst) (a := xx8.fst) (vs := (List.map (Value.int IntKind.u8) xx8.snd.snd))) (by kernel_rfl)) (Xg.run_load_rd (off0 := (offA xx8.fst + ((↑y : Int) * (160 : Int) + (↑x : Int)).toNat)) (((↑y : Int) * (160 : Int) + (↑x : Int)).toNat) (by kernel_rfl) (by omega) (Xg.get_ints (by omega)) (by kernel_rfl)) ?_
          refine Xg.any_pure (.bool (!decide (((xx2.snd.snd.getD (((↑y : Int) + (↑xx3 : Int)) * (160 : Int) + (↑x : Int) + (↑xx4 : Int)).toNat (0 : Int)) : Int) = (xx8.snd.snd.getD ((↑y : Int) * (160 : Int) + (↑x : Int)).toNat (0 : Int))))) 18 (by kernel_rfl) rfl (by kernel_rfl) (by kernel_rfl) (by kernel_rfl) (by kernel_rfl) rfl (fun _ => by kernel_rfl) ?_
          refine Xg.any_nil (by kernel_rfl) ?_
          refine Xg.at_false (t := !decide ((xx2.snd.snd.getD (((↑y : Int) + (↑xx3 : Int)) * (160 : Int) + (↑x : Int) + (↑xx4 : Int)).toNat (0 : Int) = xx8.snd.snd.getD ((↑y : Int) * (160 : Int) + (↑x : Int)).toNat (0 : Int)))) (by kernel_rfl) (by rw [decide_eq_true (by omega)]; rfl) ?_
          refine Xg.at_skip ?_
          refine Xg.at_inBlock ?_
          refine Xg.at_region ?_
          refine Xg.ops_op (by kernel_rfl) (Xg.opx_pure ((iv (↑x : Int))) rfl (fun _ => by kernel_rfl) ?_)
          refine Xg.ops_op (by kernel_rfl) (Xg.opx_int .i64 (IntKind.wrap .i64 (((↑x : Int) + (1 : Int)))) rfl (fun _ => by kernel_rfl) (Xg.wrap_i64_in (by omega)) ?_)
          refine Xg.ops_op (by kernel_rfl) (Xg.opx_pure ((iv ((↑x : Int) + (1 : Int)))) rfl (fun _ => by kernel_rfl) ?_)
          refine Xg.ops_nil ?_
          refine Xg.at_inLoop ?_)
        (focus
          refine Xg.at_keep [0, 1, 2, 3, 4, 5] (by kernel_rfl) ?_
          refine Xg.At.same (by kernel_rfl) ?_ (ih2 (((x + 1)), fun j => ([Value.agg #[Value.slice s.ra s.rn s.rc, Value.slice s.oa s.on s.oc, Value.slice s.pa s.pn s.pc], iv scy, iv scx, iv dy, iv dx, pv xb1 0, tu, tu, tu, tu, J2 10, Value.slice xx2.fst xx2.snd.snd.length xx2.snd.fst, Value.bool true, iv (↑xx3 : Int), iv (↑xx4 : Int), Value.slice xx8.fst xx8.snd.snd.length xx8.snd.fst, Value.bool true, iv (↑y : Int), iv ((↑x : Int) + (1 : Int)), Value.tuple #[Value.slice xx2.fst xx2.snd.snd.length xx2.snd.fst, Value.bool true], Value.agg #[Value.slice s.ra s.rn s.rc, Value.slice s.oa s.on s.oc, Value.slice s.pa s.pn s.pc], iv scy, iv scx, Value.agg #[Value.slice (some (Addr.mk xx1.fst (0 : Nat) none)) (12 : Nat) (12 : Nat), Value.slice none (0 : Nat) (0 : Nat), Value.slice s.pa s.pn s.pc], Value.tuple #[Value.slice xx2.fst xx2.snd.snd.length xx2.snd.fst, Value.bool true], Value.slice xx2.fst xx2.snd.snd.length xx2.snd.fst, Value.bool true, iv dy, iv (↑xx3 : Int), iv dx, iv (↑xx4 : Int), Value.tuple #[Value.slice xx8.fst xx8.snd.snd.length xx8.snd.fst, Value.bool true], Value.agg #[Value.slice s.ra s.rn s.rc, Value.slice s.oa s.on s.oc, Value.slice s.pa s.pn s.pc], iv scy, iv (↑xx5 : Int), iv (↑xx3 : Int), iv ((↑xx5 : Int) + (↑xx3 : Int)), iv scx, iv (↑xx6 : Int), iv (↑xx4 : Int), iv ((↑xx6 : Int) + (↑xx4 : Int)), Value.agg #[Value.slice (some (Addr.mk xx7.fst (0 : Nat) none)) (12 : Nat) (12 : Nat), Value.slice none (0 : Nat) (0 : Nat), Value.slice s.pa s.pn s.pc], Value.tuple #[Value.slice xx8.fst xx8.snd.snd.length xx8.snd.fst, Value.bool true], Value.slice xx8.fst xx8.snd.snd.length xx8.snd.fst, Value.bool true, Value.bool true, Value.bool false, Value.bool false, Value.bool true, Value.bool false, Value.bool false, iv (↑y : Int), iv (↑xx3 : Int), iv ((↑y : Int) + (↑xx3 : Int)), Value.bool (decide ((↑y : Int) + (↑xx3 : Int) < (144 : Int))), J 55, J 56, iv (↑x : Int), iv (↑xx4 : Int), iv ((↑x : Int) + (↑xx4 : Int)), Value.bool (decide ((↑x : Int) + (↑xx4 : Int) < (160 : Int))), iv (↑x : Int), iv ((↑x : Int) + (1 : Int)), Value.slice xx2.fst xx2.snd.snd.length xx2.snd.fst, iv (↑y : Int), iv (↑xx3 : Int), iv ((↑y : Int) + (↑xx3 : Int)), iv (((↑y : Int) + (↑xx3 : Int)) * (160 : Int)), iv (↑x : Int), iv (((↑y : Int) + (↑xx3 : Int)) * (160 : Int) + (↑x : Int)), iv (↑xx4 : Int), iv (((↑y : Int) + (↑xx3 : Int)) * (160 : Int) + (↑x : Int) + (↑xx4 : Int)), Value.pointer (some (Addr.mk (blk xx2.fst) (offA xx2.fst + (((↑y : Int) + (↑xx3 : Int)) * (160 : Int) + (↑x : Int) + (↑xx4 : Int)).toNat) none)), uv (xx2.snd.snd.getD (((↑y : Int) + (↑xx3 : Int)) * (160 : Int) + (↑x : Int) + (↑xx4 : Int)).toNat (0 : Int)), Value.slice xx8.fst xx8.snd.snd.length xx8.snd.fst, iv (↑y : Int), iv ((↑y : Int) * (160 : Int)), iv (↑x : Int), iv ((↑y : Int) * (160 : Int) + (↑x : Int)), Value.pointer (some (Addr.mk (blk xx8.fst) (offA xx8.fst + ((↑y : Int) * (160 : Int) + (↑x : Int)).toNat) none)), uv (xx8.snd.snd.getD ((↑y : Int) * (160 : Int) + (↑x : Int)).toNat (0 : Int)), Value.bool !decide (xx2.snd.snd.getD (((↑y : Int) + (↑xx3 : Int)) * (160 : Int) + (↑x : Int) + (↑xx4 : Int)).toNat (0 : Int) = xx8.snd.snd.getD ((↑y : Int) * (160 : Int) + (↑x : Int)).toNat (0 : Int))] : List Value).getD j undef) ?_ ?_))
        · rfl
        · dsimp only; omega
        · dsimp only; omega
      · clear ih2
        (focus
          refine Xg.at_seq ?_
          refine Xg.at_seq ?_
          refine Xg.at_region ?_
          refine Xg.ops_op (by kernel_rfl) (Xg.opx_pure ((iv (↑x : Int))) rfl (fun _ => by kernel_rfl) ?_)
          refine Xg.ops_op (by kernel_rfl) (Xg.opx_pure ((iv (↑xx4 : Int))) rfl (fun _ => by kernel_rfl) ?_)
          refine Xg.ops_op (by kernel_rfl) (Xg.opx_int .i64 (IntKind.wrap .i64 (((↑x : Int) + (↑xx4 : Int)))) rfl (fun _ => by kernel_rfl) (Xg.wrap_i64_in (by omega)) ?_)
          refine Xg.ops_op (by kernel_rfl) (Xg.opx_pure (.bool (decide ((((↑x : Int) + (↑xx4 : Int)) : Int) < ((160 : Int))))) rfl (fun _ => by kernel_rfl) ?_)
          refine Xg.ops_nil ?_
          refine Xg.at_false (t := decide (((↑x : Int) + (↑xx4 : Int) < (160 : Int)))) (by kernel_rfl) (decide_eq_false (by omega)) ?_
          refine Xg.at_exit rfl ?_
          refine Xg.at_inBlock ?_
          refine Xg.at_region ?_
          refine Xg.ops_op (by kernel_rfl) (Xg.opx_pure ((iv (↑y : Int))) rfl (fun _ => by kernel_rfl) ?_)
          refine Xg.ops_op (by kernel_rfl) (Xg.opx_int .i64 (IntKind.wrap .i64 (((↑y : Int) + (1 : Int)))) rfl (fun _ => by kernel_rfl) (Xg.wrap_i64_in (by omega)) ?_)
          refine Xg.ops_op (by kernel_rfl) (Xg.opx_pure ((iv ((↑y : Int) + (1 : Int)))) rfl (fun _ => by kernel_rfl) ?_)
          refine Xg.ops_nil ?_
          refine Xg.at_inLoop ?_)
        (focus
          refine Xg.at_keep [0, 1, 2, 3, 4, 5] (by kernel_rfl) ?_
          refine Xg.At.same (by kernel_rfl) ?_ (ih (((y + 1)), fun j => ([Value.agg #[Value.slice s.ra s.rn s.rc, Value.slice s.oa s.on s.oc, Value.slice s.pa s.pn s.pc], iv scy, iv scx, iv dy, iv dx, pv xb1 0, tu, tu, tu, tu, J2 10, Value.slice xx2.fst xx2.snd.snd.length xx2.snd.fst, Value.bool true, iv (↑xx3 : Int), iv (↑xx4 : Int), Value.slice xx8.fst xx8.snd.snd.length xx8.snd.fst, Value.bool true, iv ((↑y : Int) + (1 : Int)), iv (↑x : Int), Value.tuple #[Value.slice xx2.fst xx2.snd.snd.length xx2.snd.fst, Value.bool true], Value.agg #[Value.slice s.ra s.rn s.rc, Value.slice s.oa s.on s.oc, Value.slice s.pa s.pn s.pc], iv scy, iv scx, Value.agg #[Value.slice (some (Addr.mk xx1.fst (0 : Nat) none)) (12 : Nat) (12 : Nat), Value.slice none (0 : Nat) (0 : Nat), Value.slice s.pa s.pn s.pc], Value.tuple #[Value.slice xx2.fst xx2.snd.snd.length xx2.snd.fst, Value.bool true], Value.slice xx2.fst xx2.snd.snd.length xx2.snd.fst, Value.bool true, iv dy, iv (↑xx3 : Int), iv dx, iv (↑xx4 : Int), Value.tuple #[Value.slice xx8.fst xx8.snd.snd.length xx8.snd.fst, Value.bool true], Value.agg #[Value.slice s.ra s.rn s.rc, Value.slice s.oa s.on s.oc, Value.slice s.pa s.pn s.pc], iv scy, iv (↑xx5 : Int), iv (↑xx3 : Int), iv ((↑xx5 : Int) + (↑xx3 : Int)), iv scx, iv (↑xx6 : Int), iv (↑xx4 : Int), iv ((↑xx6 : Int) + (↑xx4 : Int)), Value.agg #[Value.slice (some (Addr.mk xx7.fst (0 : Nat) none)) (12 : Nat) (12 : Nat), Value.slice none (0 : Nat) (0 : Nat), Value.slice s.pa s.pn s.pc], Value.tuple #[Value.slice xx8.fst xx8.snd.snd.length xx8.snd.fst, Value.bool true], Value.slice xx8.fst xx8.snd.snd.length xx8.snd.fst, Value.bool true, Value.bool true, Value.bool false, Value.bool false, Value.bool true, Value.bool false, Value.bool false, iv (↑y : Int), iv (↑xx3 : Int), iv ((↑y : Int) + (↑xx3 : Int)), Value.bool (decide ((↑y : Int) + (↑xx3 : Int) < (144 : Int))), iv (↑y : Int), iv ((↑y : Int) + (1 : Int)), iv (↑x : Int), iv (↑xx4 : Int), iv ((↑x : Int) + (↑xx4 : Int)), Value.bool (decide ((↑x : Int) + (↑xx4 : Int) < (160 : Int))), J2 61, J2 62, J2 63, J2 64, J2 65, J2 66, J2 67, J2 68, J2 69, J2 70, J2 71, J2 72, J2 73, J2 74, J2 75, J2 76, J2 77, J2 78, J2 79, J2 80, J2 81] : List Value).getD j undef) ?_ ?_))
        · rfl
        · dsimp only; omega
        · dsimp only; omega
    · clear ih
      (focus
        refine Xg.at_seq ?_
        refine Xg.at_seq ?_
        refine Xg.at_region ?_
        refine Xg.ops_op (by kernel_rfl) (Xg.opx_pure ((iv (↑y : Int))) rfl (fun _ => by kernel_rfl) ?_)
        refine Xg.ops_op (by kernel_rfl) (Xg.opx_pure ((iv (↑xx3 : Int))) rfl (fun _ => by kernel_rfl) ?_)
        refine Xg.ops_op (by kernel_rfl) (Xg.opx_int .i64 (IntKind.wrap .i64 (((↑y : Int) + (↑xx3 : Int)))) rfl (fun _ => by kernel_rfl) (Xg.wrap_i64_in (by omega)) ?_)
        refine Xg.ops_op (by kernel_rfl) (Xg.opx_pure (.bool (decide ((((↑y : Int) + (↑xx3 : Int)) : Int) < ((144 : Int))))) rfl (fun _ => by kernel_rfl) ?_)
        refine Xg.ops_nil ?_
        refine Xg.at_false (t := decide (((↑y : Int) + (↑xx3 : Int) < (144 : Int)))) (by kernel_rfl) (decide_eq_false (by omega)) ?_
        refine Xg.at_exit rfl ?_
        refine Xg.at_seq ?_
        refine Xg.at_region ?_
        refine Xg.ops_op (by kernel_rfl) (Xg.opx_pure ((Value.bool true)) rfl (fun _ => by kernel_rfl) ?_)
        refine Xg.ops_nil ?_
        refine Xg.at_ret_ps (v := (Value.bool true)) [2] [A] Go.Proofs.Try.func6 (fun _ => by kernel_rfl) (by kernel_rfl) (by kernel_rfl) ?_
        exact ⟨by kernel_rfl, by kernel_rfl⟩)
  · have key : ∀ a b : Nat, pickN ((a : Int) + (b : Int)) 256 = (a + b) % 256 := fun a b => pickN_nat (a + b) 256 (by omega)
    have hY : xx7.2.1 = (xx1.2.1 + xx3) % 256 := by rw [xh7_0, key]; omega
    have hX : xx7.2.2 = (xx1.2.2 + xx4) % 256 := by rw [xh7_1, key]; omega
    have heq : ∀ y x : Nat, y + xx3 < 144 → x + xx4 < 160 → xx2.2.2.getD (160 * (y + xx3) + (x + xx4)) 0 = xx8.2.2.getD (160 * y + x) 0 := fun y x h1 h2 => by
      rw [xh2_0.pic (y + xx3) (x + xx4) h1 h2, xh8_0.pic y x (by omega) (by omega), plain_pic _ _ _ _ _ _ _ _ _ _ _ _ (by omega) (by omega) (by omega), plain_pic _ _ _ _ _ _ _ _ _ _ _ _ (by omega) (by omega) (by omega)]
      rw [show (((y + xx3 : Nat) : Int) + (xx1.2.1 : Int)) % 256 = ((y : Int) + (xx7.2.1 : Int)) % 256 from by omega, show (((x + xx4 : Nat) : Int) + (xx1.2.2 : Int)) % 256 = ((x : Int) + (xx7.2.2 : Int)) % 256 from by omega]
    clear hsh hpl
    (focus
      refine Xg.at_rounds_inv (α := (Nat) × (Nat → Value)) (fun x => ((fun x => x ≤ 144) : (Nat) → Prop) x.1) (fun x => ((fun x => 144 - x) : (Nat) → Nat) x.1) (fun x => Xg.headT [Value.agg #[Value.slice s.ra s.rn s.rc, Value.slice s.oa s.on s.oc, Value.slice s.pa s.pn s.pc], iv scy, iv scx, iv dy, iv dx, pv xb1 0, tu, tu, tu, tu, Value.bool false, Value.slice xx2.fst xx2.snd.snd.length xx2.snd.fst, Value.bool true, iv (↑xx3 : Int), iv (↑xx4 : Int), Value.slice xx8.fst xx8.snd.snd.length xx8.snd.fst, Value.bool true, iv 0, tu, Value.tuple #[Value.slice xx2.fst xx2.snd.snd.length xx2.snd.fst, Value.bool true], Value.agg #[Value.slice s.ra s.rn s.rc, Value.slice s.oa s.on s.oc, Value.slice s.pa s.pn s.pc], iv scy, iv scx, Value.agg #[Value.slice (some (Addr.mk xx1.fst (0 : Nat) none)) (12 : Nat) (12 : Nat), Value.slice none (0 : Nat) (0 : Nat), Value.slice s.pa s.pn s.pc], Value.tuple #[Value.slice xx2.fst xx2.snd.snd.length xx2.snd.fst, Value.bool true], Value.slice xx2.fst xx2.snd.snd.length xx2.snd.fst, Value.bool true, iv dy, iv (↑xx3 : Int), iv dx, iv (↑xx4 : Int), Value.tuple #[Value.slice xx8.fst xx8.snd.snd.length xx8.snd.fst, Value.bool true], Value.agg #[Value.slice s.ra s.rn s.rc, Value.slice s.oa s.on s.oc, Value.slice s.pa s.pn s.pc], iv scy, iv (↑xx5 : Int), iv (↑xx3 : Int), iv ((↑xx5 : Int) + (↑xx3 : Int)), iv scx, iv (↑xx6 : Int), iv (↑xx4 : Int), iv ((↑xx6 : Int) + (↑xx4 : Int)), Value.agg #[Value.slice (some (Addr.mk xx7.fst (0 : Nat) none)) (12 : Nat) (12 : Nat), Value.slice none (0 : Nat) (0 : Nat), Value.slice s.pa s.pn s.pc], Value.tuple #[Value.slice xx8.fst xx8.snd.snd.length xx8.snd.fst, Value.bool true], Value.slice xx8.fst xx8.snd.snd.length xx8.snd.fst, Value.bool true, Value.bool true, Value.bool false, Value.bool false, Value.bool true, Value.bool false, Value.bool false, tu, tu, tu, tu, tu, tu, tu, tu, tu, tu, tu, tu, tu, tu, tu, tu, tu, tu, tu, tu, tu, tu, tu, tu, tu, tu, tu, tu, tu, tu, tu] [10, 18, 51, 52, 53, 54, 55, 56, 57, 58, 59, 60, 61, 62, 63, 64, 65, 66, 67, 68, 69, 70, 71, 72, 73, 74, 75, 76, 77, 78, 79, 80, 81] (((fun x => [(17, .int .i64 (x : Nat))]) : (Nat) → List (Nat × Go.Value)) x.1) x.2) (fun x => ((fun x => [ints 5 .u8 xx8.1 xx8.2.1 xx8.2.2, rowR xx7.1 145 0 (xx7.2.1 : Nat) (xx7.2.2 : Nat) 0 0 0 228 0 0 0 0, A, ints 5 .u8 xx2.1 xx2.2.1 xx2.2.2, rowR xx1.1 145 0 (xx1.2.1 : Nat) (xx1.2.2 : Nat) 0 0 0 228 0 0 0 0, row xb1 36 [.slice s.ra s.rn s.rc, .slice s.oa s.on s.oc, .slice s.pa s.pn s.pc]]) : (Nat) → List Go.Sl.HP) x.1) ((0), fun j => ([Value.agg #[Value.slice s.ra s.rn s.rc, Value.slice s.oa s.on s.oc, Value.slice s.pa s.pn s.pc], iv scy, iv scx, iv dy, iv dx, pv xb1 0, tu, tu, tu, tu, Value.bool false, Value.slice xx2.fst xx2.snd.snd.length xx2.snd.fst, Value.bool true, iv (↑xx3 : Int), iv (↑xx4 : Int), Value.slice xx8.fst xx8.snd.snd.length xx8.snd.fst, Value.bool true, iv 0, tu, Value.tuple #[Value.slice xx2.fst xx2.snd.snd.length xx2.snd.fst, Value.bool true], Value.agg #[Value.slice s.ra s.rn s.rc, Value.slice s.oa s.on s.oc, Value.slice s.pa s.pn s.pc], iv scy, iv scx, Value.agg #[Value.slice (some (Addr.mk xx1.fst (0 : Nat) none)) (12 : Nat) (12 : Nat), Value.slice none (0 : Nat) (0 : Nat), Value.slice s.pa s.pn s.pc], Value.tuple #[Value.slice xx2.fst xx2.snd.snd.length xx2.snd.fst, Value.bool true], Value.slice xx2.fst xx2.snd.snd.length xx2.snd.fst, Value.bool true, iv dy, iv (↑xx3 : Int), iv dx, iv (↑xx4 : Int), Value.tuple #[Value.slice xx8.fst xx8.snd.snd.length xx8.snd.fst, Value.bool true], Value.agg #[Value.slice s.ra s.rn s.rc, Value.slice s.oa s.on s.oc, Value.slice s.pa s.pn s.pc], iv scy, iv (↑xx5 : Int), iv (↑xx3 : Int), iv ((↑xx5 : Int) + (↑xx3 : Int)), iv scx, iv (↑xx6 : Int), iv (↑xx4 : Int), iv ((↑xx6 : Int) + (↑xx4 : Int)), Value.agg #[Value.slice (some (Addr.mk xx7.fst (0 : Nat) none)) (12 : Nat) (12 : Nat), Value.slice none (0 : Nat) (0 : Nat), Value.slice s.pa s.pn s.pc], Value.tuple #[Value.slice xx8.fst xx8.snd.snd.length xx8.snd.fst, Value.bool true], Value.slice xx8.fst xx8.snd.snd.length xx8.snd.fst, Value.bool true, Value.bool true, Value.bool false, Value.bool false, Value.bool true, Value.bool false, Value.bool false, tu, tu, tu, tu, tu, tu, tu, tu, tu, tu, tu, tu, tu, tu, tu, tu, tu, tu, tu, tu, tu, tu, tu, tu, tu, tu, tu, tu, tu, tu, tu] : List Value).getD j undef) (by kernel_rfl) (by kernel_rfl) ?_ ?_)
    · exact Nat.zero_le _
    rintro ⟨y, J⟩ hy ih
    dsimp only at hy
    (focus
      refine Xg.At.same (T' := [Value.agg #[Value.slice s.ra s.rn s.rc, Value.slice s.oa s.on s.oc, Value.slice s.pa s.pn s.pc], iv scy, iv scx, iv dy, iv dx, pv xb1 0, tu, tu, tu, tu, J 10, Value.slice xx2.fst xx2.snd.snd.length xx2.snd.fst, Value.bool true, iv (↑xx3 : Int), iv (↑xx4 : Int), Value.slice xx8.fst xx8.snd.snd.length xx8.snd.fst, Value.bool true, iv (↑y : Int), J 18, Value.tuple #[Value.slice xx2.fst xx2.snd.snd.length xx2.snd.fst, Value.bool true], Value.agg #[Value.slice s.ra s.rn s.rc, Value.slice s.oa s.on s.oc, Value.slice s.pa s.pn s.pc], iv scy, iv scx, Value.agg #[Value.slice (some (Addr.mk xx1.fst (0 : Nat) none)) (12 : Nat) (12 : Nat), Value.slice none (0 : Nat) (0 : Nat), Value.slice s.pa s.pn s.pc], Value.tuple #[Value.slice xx2.fst xx2.snd.snd.length xx2.snd.fst, Value.bool true], Value.slice xx2.fst xx2.snd.snd.length xx2.snd.fst, Value.bool true, iv dy, iv (↑xx3 : Int), iv dx, iv (↑xx4 : Int), Value.tuple #[Value.slice xx8.fst xx8.snd.snd.length xx8.snd.fst, Value.bool true], Value.agg #[Value.slice s.ra s.rn s.rc, Value.slice s.oa s.on s.oc, Value.slice s.pa s.pn s.pc], iv scy, iv (↑xx5 : Int), iv (↑xx3 : Int), iv ((↑xx5 : Int) + (↑xx3 : Int)), iv scx, iv (↑xx6 : Int), iv (↑xx4 : Int), iv ((↑xx6 : Int) + (↑xx4 : Int)), Value.agg #[Value.slice (some (Addr.mk xx7.fst (0 : Nat) none)) (12 : Nat) (12 : Nat), Value.slice none (0 : Nat) (0 : Nat), Value.slice s.pa s.pn s.pc], Value.tuple #[Value.slice xx8.fst xx8.snd.snd.length xx8.snd.fst, Value.bool true], Value.slice xx8.fst xx8.snd.snd.length xx8.snd.fst, Value.bool true, Value.bool true, Value.bool false, Value.bool false, Value.bool true, Value.bool false, Value.bool false, J 51, J 52, J 53, J 54, J 55, J 56, J 57, J 58, J 59, J 60, J 61, J 62, J 63, J 64, J 65, J 66, J 67, J 68, J 69, J 70, J 71, J 72, J 73, J 74, J 75, J 76, J 77, J 78, J 79, J 80, J 81]) (L' := [ints (5 : TypeId) IntKind.u8 xx8.fst xx8.snd.fst xx8.snd.snd, rowR xx7.fst (145 : Int) (0 : Int) (↑xx7.snd.fst : Int) (↑xx7.snd.snd : Int) (0 : Int) (0 : Int) (0 : Int) (228 : Int) (0 : Int) (0 : Int) (0 : Int) (0 : Int), A, ints (5 : TypeId) IntKind.u8 xx2.fst xx2.snd.fst xx2.snd.snd, rowR xx1.fst (145 : Int) (0 : Int) (↑xx1.snd.fst : Int) (↑xx1.snd.snd : Int) (0 : Int) (0 : Int) (0 : Int) (228 : Int) (0 : Int) (0 : Int) (0 : Int) (0 : Int), row xb1 (36 : TypeId) [Value.slice s.ra s.rn s.rc, Value.slice s.oa s.on s.oc, Value.slice s.pa s.pn s.pc]]) (by kernel_rfl) rfl ?_)
    by_cases hlt : y + xx3 < 144
    · (focus
        refine Xg.at_seq ?_
        refine Xg.at_seq ?_
        refine Xg.at_region ?_
        refine Xg.ops_op (by kernel_rfl) (Xg.opx_pure ((iv (↑y : Int))) rfl (fun _ => by kernel_rfl) ?_)
        refine Xg.ops_op (by kernel_rfl) (Xg.opx_pure ((iv (↑xx3 : Int))) rfl (fun _ => by kernel_rfl) ?_)
        refine Xg.ops_op (by kernel_rfl) (Xg.opx_int .i64 (IntKind.wrap .i64 (((↑y : Int) + (↑xx3 : Int)))) rfl (fun _ => by kernel_rfl) (Xg.wrap_i64_in (by omega)) ?_)
        refine Xg.ops_op (by kernel_rfl) (Xg.opx_pure (.bool (decide ((((↑y : Int) + (↑xx3 : Int)) : Int) < ((144 : Int))))) rfl (fun _ => by kernel_rfl) ?_)
        refine Xg.ops_nil ?_
        refine Xg.at_true (t := decide (((↑y : Int) + (↑xx3 : Int) < (144 : Int)))) (by kernel_rfl) (decide_eq_true (by omega)) ?_
        refine Xg.at_skip ?_
        refine Xg.at_seq ?_
        refine Xg.at_block ?_
        refine Xg.at_seq ?_
        refine Xg.at_region ?_
        refine Xg.ops_op (by kernel_rfl) (Xg.opx_pure ((iv 0)) rfl (fun _ => by kernel_rfl) ?_)
        refine Xg.ops_nil ?_
        refine Xg.at_block ?_)
      (focus
        refine Xg.at_rounds_inv (α := (Nat) × (Nat → Value)) (fun x => ((fun x => x ≤ 160) : (Nat) → Prop) x.1) (fun x => ((fun x => 160 - x) : (Nat) → Nat) x.1) (fun x => Xg.headT [Value.agg #[Value.slice s.ra s.rn s.rc, Value.slice s.oa s.on s.oc, Value.slice s.pa s.pn s.pc], iv scy, iv scx, iv dy, iv dx, pv xb1 0, tu, tu, tu, tu, J 10, Value.slice xx2.fst xx2.snd.snd.length xx2.snd.fst, Value.bool true, iv (↑xx3 : Int), iv (↑xx4 : Int), Value.slice xx8.fst xx8.snd.snd.length xx8.snd.fst, Value.bool true, iv (↑y : Int), iv 0, Value.tuple #[Value.slice xx2.fst xx2.snd.snd.length xx2.snd.fst, Value.bool true], Value.agg #[Value.slice s.ra s.rn s.rc, Value.slice s.oa s.on s.oc, Value.slice s.pa s.pn s.pc], iv scy, iv scx, Value.agg #[Value.slice (some (Addr.mk xx1.fst (0 : Nat) none)) (12 : Nat) (12 : Nat), Value.slice none (0 : Nat) (0 : Nat), Value.slice s.pa s.pn s.pc], Value.tuple #[Value.slice xx2.fst xx2.snd.snd.length xx2.snd.fst, Value.bool true], Value.slice xx2.fst xx2.snd.snd.length xx2.snd.fst, Value.bool true, iv dy, iv (↑xx3 : Int), iv dx, iv (↑xx4 : Int), Value.tuple #[Value.slice xx8.fst xx8.snd.snd.length xx8.snd.fst, Value.bool true], Value.agg #[Value.slice s.ra s.rn s.rc, Value.slice s.oa s.on s.oc, Value.slice s.pa s.pn s.pc], iv scy, iv (↑xx5 : Int), iv (↑xx3 : Int), iv ((↑xx5 : Int) + (↑xx3 : Int)), iv scx, iv (↑xx6 : Int), iv (↑xx4 : Int), iv ((↑xx6 : Int) + (↑xx4 : Int)), Value.agg #[Value.slice (some (Addr.mk xx7.fst (0 : Nat) none)) (12 : Nat) (12 : Nat), Value.slice none (0 : Nat) (0 : Nat), Value.slice s.pa s.pn s.pc], Value.tuple #[Value.slice xx8.fst xx8.snd.snd.length xx8.snd.fst, Value.bool true], Value.slice xx8.fst xx8.snd.snd.length xx8.snd.fst, Value.bool true, Value.bool true, Value.bool false, Value.bool false, Value.bool true, Value.bool false, Value.bool false, iv (↑y : Int), iv (↑xx3 : Int), iv ((↑y : Int) + (↑xx3 : Int)), Value.bool (decide ((↑y : Int) + (↑xx3 : Int) < (144 : Int))), J 55, J 56, J 57, J 58, J 59, J 60, J 61, J 62, J 63, J 64, J 65, J 66, J 67, J 68, J 69, J 70, J 71, J 72, J 73, J 74, J 75, J 76, J 77, J 78, J 79, J 80, J 81] [10, 57, 58, 59, 60, 61, 62, 63, 64, 65, 66, 67, 68, 69, 70, 71, 72, 73, 74, 75, 76, 77, 78, 79, 80, 81] (((fun x => [(18, .int .i64 (x : Nat))]) : (Nat) → List (Nat × Go.Value)) x.1) x.2) (fun x => ((fun x => [ints 5 .u8 xx8.1 xx8.2.1 xx8.2.2, rowR xx7.1 145 0 (xx7.2.1 : Nat) (xx7.2.2 : Nat) 0 0 0 228 0 0 0 0, A, ints 5 .u8 xx2.1 xx2.2.1 xx2.2.2, rowR xx1.1 145 0 (xx1.2.1 : Nat) (xx1.2.2 : Nat) 0 0 0 228 0 0 0 0, row xb1 36 [.slice s.ra s.rn s.rc, .slice s.oa s.on s.oc, .slice s.pa s.pn s.pc]]) : (Nat) → List Go.Sl.HP) x.1) ((0), fun j => ([Value.agg #[Value.slice s.ra s.rn s.rc, Value.slice s.oa s.on s.oc, Value.slice s.pa s.pn s.pc], iv scy, iv scx, iv dy, iv dx, pv xb1 0, tu, tu, tu, tu, J 10, Value.slice xx2.fst xx2.snd.snd.length xx2.snd.fst, Value.bool true, iv (↑xx3 : Int), iv (↑xx4 : Int), Value.slice xx8.fst xx8.snd.snd.length xx8.snd.fst, Value.bool true, iv (↑y : Int), iv 0, Value.tuple #[Value.slice xx2.fst xx2.snd.snd.length xx2.snd.fst, Value.bool true], Value.agg #[Value.slice s.ra s.rn s.rc, Value.slice s.oa s.on s.oc, Value.slice s.pa s.pn s.pc], iv scy, iv scx, Value.agg #[Value.slice (some (Addr.mk xx1.fst (0 : Nat) none)) (12 : Nat) (12 : Nat), Value.slice none (0 : Nat) (0 : Nat), Value.slice s.pa s.pn s.pc], Value.tuple #[Value.slice xx2.fst xx2.snd.snd.length xx2.snd.fst, Value.bool true], Value.slice xx2.fst xx2.snd.snd.length xx2.snd.fst, Value.bool true, iv dy, iv (↑xx3 : Int), iv dx, iv (↑xx4 : Int), Value.tuple #[Value.slice xx8.fst xx8.snd.snd.length xx8.snd.fst, Value.bool true], Value.agg #[Value.slice s.ra s.rn s.rc, Value.slice s.oa s.on s.oc, Value.slice s.pa s.pn s.pc], iv scy, iv (↑xx5 : Int), iv (↑xx3 : Int), iv ((↑xx5 : Int) + (↑xx3 : Int)), iv scx, iv (↑xx6 : Int), iv (↑xx4 : Int), iv ((↑xx6 : Int) + (↑xx4 : Int)), Value.agg #[Value.slice (some (Addr.mk xx7.fst (0 : Nat) none)) (12 : Nat) (12 : Nat), Value.slice none (0 : Nat) (0 : Nat), Value.slice s.pa s.pn s.pc], Value.tuple #[Value.slice xx8.fst xx8.snd.snd.length xx8.snd.fst, Value.bool true], Value.slice xx8.fst xx8.snd.snd.length xx8.snd.fst, Value.bool true, Value.bool true, Value.bool false, Value.bool false, Value.bool true, Value.bool false, Value.bool false, iv (↑y : Int), iv (↑xx3 : Int), iv ((↑y : Int) + (↑xx3 : Int)), Value.bool (decide ((↑y : Int) + (↑xx3 : Int) < (144 : Int))), J 55, J 56, J 57, J 58, J 59, J 60, J 61, J 62, J 63, J 64, J 65, J 66, J 67, J 68, J 69, J 70, J 71, J 72, J 73, J 74, J 75, J 76, J 77, J 78, J 79, J 80, J 81] : List Value).getD j undef) (by kernel_rfl) (by kernel_rfl) ?_ ?_)
      · exact Nat.zero_le _
      rintro ⟨x, J2⟩ hx ih2
      dsimp only at hx
      (focus
        refine Xg.At.same (T' := [Value.agg #[Value.slice s.ra s.rn s.rc, Value.slice s.oa s.on s.oc, Value.slice s.pa s.pn s.pc], iv scy, iv scx, iv dy, iv dx, pv xb1 0, tu, tu, tu, tu, J2 10, Value.slice xx2.fst xx2.snd.snd.length xx2.snd.fst, Value.bool true, iv (↑xx3 : Int), iv (↑xx4 : Int), Value.slice xx8.fst xx8.snd.snd.length xx8.snd.fst, Value.bool true, iv (↑y : Int), iv (↑x : Int), Value.tuple #[Value.slice xx2.fst xx2.snd.snd.length xx2.snd.fst, Value.bool true], Value.agg #[Value.slice s.ra s.rn s.rc, Value.slice s.oa s.on s.oc, Value.slice s.pa s.pn s.pc], iv scy, iv scx, Value.agg #[Value.slice (some (Addr.mk xx1.fst (0 : Nat) none)) (12 : Nat) (12 : Nat), Value.slice none (0 : Nat) (0 : Nat), Value.slice s.pa s.pn s.pc], Value.tuple #[Value.slice xx2.fst xx2.snd.snd.length xx2.snd.fst, Value.bool true], Value.slice xx2.fst xx2.snd.snd.length xx2.snd.fst, Value.bool true, iv dy, iv (↑xx3 : Int), iv dx, iv (↑xx4 : Int), Value.tuple #[Value.slice xx8.fst xx8.snd.snd.length xx8.snd.fst, Value.bool true], Value.agg #[Value.slice s.ra s.rn s.rc, Value.slice s.oa s.on s.oc, Value.slice s.pa s.pn s.pc], iv scy, iv (↑xx5 : Int), iv (↑xx3 : Int), iv ((↑xx5 : Int) + (↑xx3 : Int)), iv scx, iv (↑xx6 : Int), iv (↑xx4 : Int), iv ((↑xx6 : Int) + (↑xx4 : Int)), Value.agg #[Value.slice (some (Addr.mk xx7.fst (0 : Nat) none)) (12 : Nat) (12 : Nat), Value.slice none (0 : Nat) (0 : Nat), Value.slice s.pa s.pn s.pc], Value.tuple #[Value.slice xx8.fst xx8.snd.snd.length xx8.snd.fst, Value.bool true], Value.slice xx8.fst xx8.snd.snd.length xx8.snd.fst, Value.bool true, Value.bool true, Value.bool false, Value.bool false, Value.bool true, Value.bool false, Value.bool false, iv (↑y : Int), iv (↑xx3 : Int), iv ((↑y : Int) + (↑xx3 : Int)), Value.bool (decide ((↑y : Int) + (↑xx3 : Int) < (144 : Int))), J 55, J 56, J2 57, J2 58, J2 59, J2 60, J2 61, J2 62, J2 63, J2 64, J2 65, J2 66, J2 67, J2 68, J2 69, J2 70, J2 71, J2 72, J2 73, J2 74, J2 75, J2 76, J2 77, J2 78, J2 79, J2 80, J2 81]) (L' := [ints (5 : TypeId) IntKind.u8 xx8.fst xx8.snd.fst xx8.snd.snd, rowR xx7.fst (145 : Int) (0 : Int) (↑xx7.snd.fst : Int) (↑xx7.snd.snd : Int) (0 : Int) (0 : Int) (0 : Int) (228 : Int) (0 : Int) (0 : Int) (0 : Int) (0 : Int), A, ints (5 : TypeId) IntKind.u8 xx2.fst xx2.snd.fst xx2.snd.snd, rowR xx1.fst (145 : Int) (0 : Int) (↑xx1.snd.fst : Int) (↑xx1.snd.snd : Int) (0 : Int) (0 : Int) (0 : Int) (228 : Int) (0 : Int) (0 : Int) (0 : Int) (0 : Int), row xb1 (36 : TypeId) [Value.slice s.ra s.rn s.rc, Value.slice s.oa s.on s.oc, Value.slice s.pa s.pn s.pc]]) (by kernel_rfl) rfl ?_)
      by_cases hlt2 : x + xx4 < 160
      · have he : xx2.2.2.getD (((y : Int) + (xx3 : Int)) * 160 + (x : Int) + (xx4 : Int)).toNat 0 = xx8.2.2.getD ((y : Int) * 160 + (x : Int)).toNat 0 := by
          rw [show (((y : Int) + (xx3 : Int)) * 160 + (x : Int) + (xx4 : Int)).toNat = 160 * (y + xx3) + (x + xx4) from by omega, show ((y : Int) * 160 + (x : Int)).toNat = 160 * y + x from by omega]
          exact heq y x hlt hlt2
        have hle : ((y : Int) + xx3) * 160 + x + xx4 < 23040 := by omega
        (focus
          refine Xg.at_seq ?_
          refine Xg.at_seq ?_
          refine Xg.at_region ?_
          refine Xg.ops_op (by kernel_rfl) (Xg.opx_pure ((iv (↑x : Int))) rfl (fun _ => by kernel_rfl) ?_)
          refine Xg.ops_op (by kernel_rfl) (Xg.opx_pure ((iv (↑xx4 : Int))) rfl (fun _ => by kernel_rfl) ?_)
          refine Xg.ops_op (by kernel_rfl) (Xg.opx_int .i64 (IntKind.wrap .i64 (((↑x : Int) + (↑xx4 : Int)))) rfl (fun _ => by kernel_rfl) (Xg.wrap_i64_in (by omega)) ?_)
          refine Xg.ops_op (by kernel_rfl) (Xg.opx_pure (.bool (decide ((((↑x : Int) + (↑xx4 : Int)) : Int) < ((160 : Int))))) rfl (fun _ => by kernel_rfl) ?_)
          refine Xg.ops_nil ?_
          refine Xg.at_true (t := decide (((↑x : Int) + (↑xx4 : Int) < (160 : Int)))) (by kernel_rfl) (decide_eq_true (by omega)) ?_
          refine Xg.at_skip ?_
          refine Xg.at_seq ?_
          refine Xg.at_block ?_
          refine Xg.at_seq ?_
          refine Xg.at_draw [] [(9, [0, 1, 2, 3, 4, 5, 6, 7, 8, 9, 11, 12, 13, 14, 15, 16, 17], (RdIs (1 : Nat) (Value.slice xx2.fst xx2.snd.snd.length xx2.snd.fst) xx2.snd.snd.length (List.map (Value.int IntKind.u8) xx2.snd.snd))), (10, [0, 1, 2, 3, 4, 5, 6, 7, 8, 9, 10, 11, 12, 13, 14, 15, 16, 17], (RdIs (1 : Nat) (Value.slice xx2.fst xx2.snd.snd.length xx2.snd.fst) xx2.snd.snd.length (List.map (Value.int IntKind.u8) xx2.snd.snd))), (16, [0, 1, 2, 3, 4, 5, 6, 7, 8, 9, 10, 11, 12, 13, 14, 15, 16], (RdIs (1 : Nat) (Value.slice xx8.fst xx8.snd.snd.length xx8.snd.fst) xx8.snd.snd.length (List.map (Value.int IntKind.u8) xx8.snd.snd))), (17, [0, 1, 2, 3, 4, 5, 6, 7, 8, 9, 10, 11, 12, 13, 14, 15, 16, 17], (RdIs (1 : Nat) (Value.slice xx8.fst xx8.snd.snd.length xx8.snd.fst) xx8.snd.snd.length (List.map (Value.int IntKind.u8) xx8.snd.snd)))] (by kernel_rfl) ?_
          refine Xg.any_pure ((Value.slice xx2.fst xx2.snd.snd.length xx2.snd.fst)) 0 (by kernel_rfl) rfl (by kernel_rfl) (by kernel_rfl) (by kernel_rfl) (by kernel_rfl) rfl (fun _ => by kernel_rfl) ?_
          refine Xg.any_pure ((iv (↑y : Int))) 1 (by kernel_rfl) rfl (by kernel_rfl) (by kernel_rfl) (by kernel_rfl) (by kernel_rfl) rfl (fun _ => by kernel_rfl) ?_
          refine Xg.any_pure ((iv (↑xx3 : Int))) 2 (by kernel_rfl) rfl (by kernel_rfl) (by kernel_rfl) (by kernel_rfl) (by kernel_rfl) rfl (fun _ => by kernel_rfl) ?_
          refine Xg.any_int .i64 (IntKind.wrap .i64 (((↑y : Int) + (↑xx3 : Int)))) 3 (by kernel_rfl) rfl (by kernel_rfl) (by kernel_rfl) (by kernel_rfl) (by kernel_rfl) rfl (fun _ => by kernel_rfl) (Xg.wrap_i64_in (by omega)) ?_
          refine Xg.any_int .i64 (IntKind.wrap .i64 ((((↑y : Int) + (↑xx3 : Int)) * (160 : Int)))) 4 (by kernel_rfl) rfl (by kernel_rfl) (by kernel_rfl) (by kernel_rfl) (by kernel_rfl) rfl (fun _ => by kernel_rfl) (Xg.wrap_i64_in (by omega)) ?_
          refine Xg.any_pure ((iv (↑x : Int))) 5 (by kernel_rfl) rfl (by kernel_rfl) (by kernel_rfl) (by kernel_rfl) (by kernel_rfl) rfl (fun _ => by kernel_rfl) ?_
          refine Xg.any_int .i64 (IntKind.wrap .i64 ((((↑y : Int) + (↑xx3 : Int)) * (160 : Int) + (↑x : Int)))) 6 (by kernel_rfl) rfl (by kernel_rfl) (by kernel_rfl) (by kernel_rfl) (by kernel_rfl) rfl (fun _ => by kernel_rfl) (Xg.wrap_i64_in (by omega)) ?_
          refine Xg.any_pure ((iv (↑xx4 : Int))) 7 (by kernel_rfl) rfl (by kernel_rfl) (by kernel_rfl) (by kernel_rfl) (by kernel_rfl) rfl (fun _ => by kernel_rfl) ?_
          refine Xg.any_int .i64 (IntKind.wrap .i64 ((((↑y : Int) + (↑xx3 : Int)) * (160 : Int) + (↑x : Int) + (↑xx4 : Int)))) 8 (by kernel_rfl) rfl (by kernel_rfl) (by kernel_rfl) (by kernel_rfl) (by kernel_rfl) rfl (fun _ => by kernel_rfl) (Xg.wrap_i64_in (by omega)) ?_
          refine Xg.any_reads (.pointer (some (Addr.mk (Xg.blk xx2.fst) (offA xx2.fst + (((↑y : Int) + (↑xx3 : Int)) * (160 : Int) + (↑x : Int) + (↑xx4 : Int)).toNat) none))) 9 0 (by kernel_rfl) rfl (by kernel_rfl) (by kernel_rfl) (by kernel_rfl) (by kernel_rfl) rfl rfl (by kernel_rfl) (Xg.rd_now 3 (Xg.reads_own (E := ((5 : TypeId))) (sz := ((1 : Nat))) (n := xx2.snd.snd.length) (c := xx2.snd.fst) (a := xx2.fst) (vs := (List.map (Value.int IntKind.u8) xx2.snd.snd))) (by kernel_rfl)) (Xg.run_ix_rd (elem := 5) (kd := .i64) (e := (((↑y : Int) + (↑xx3 : Int)) * (160 : Int) + (↑x : Int) + (↑xx4 : Int))) 1 ((((↑y : Int) + (↑xx3 : Int)) * (160 : Int) + (↑x : Int) + (↑xx4 : Int)).toNat) (offA xx2.fst + (((↑y : Int) + (↑xx3 : Int)) * (160 : Int) + (↑x : Int) + (↑xx4 : Int)).toNat) (by kernel_rfl) (by kernel_rfl) (by kernel_rfl) (by kernel_rfl) (by omega) (by omega) (by simp only [List.length_map]; omega) (by omega)) ?_
          refine Xg.any_reads (uv (xx2.snd.snd.getD (((↑y : Int) + (↑xx3 : Int)) * (160 : Int) + (↑x : Int) + (↑xx4 : Int)).toNat (0 : Int))) 10 1 (by kernel_rfl) rfl (by kernel_rfl) (by kernel_rfl) (by kernel_rfl) (by kernel_rfl) rfl rfl (by kernel_rfl) (Xg.rd_now 3 (Xg.reads_own (E := ((5 : TypeId))) (sz := ((1 : Nat))) (n := xx2.snd.snd.length) (c := xx2.snd.fst) (a := xx2.fst) (vs := (List.map (Value.int IntKind.u8) xx2.snd.snd))) (by kernel_rfl)) (Xg.run_load_rd (off0 := (offA xx2.fst + (((↑y : Int) + (↑xx3 : Int)) * (160 : Int) + (↑x : Int) + (↑xx4 : Int)).toNat)) ((((↑y : Int) + (↑xx3 : Int)) * (160 : Int) + (↑x : Int) + (↑xx4 : Int)).toNat) (by kernel_rfl) (by omega) (Xg.get_ints (by omega)) (by kernel_rfl)) ?_
          refine Xg.any_pure ((Value.slice xx8.fst xx8.snd.snd.length xx8.snd.fst)) 11 (by kernel_rfl) rfl (by kernel_rfl) (by kernel_rfl) (by kernel_rfl) (by kernel_rfl) rfl (fun _ => by kernel_rfl) ?_
          refine Xg.any_pure ((iv (↑y : Int))) 12 (by kernel_rfl) rfl (by kernel_rfl) (by kernel_rfl) (by kernel_rfl) (by kernel_rfl) rfl (fun _ => by kernel_rfl) ?_
          refine Xg.any_int .i64 (IntKind.wrap .i64 (((↑y : Int) * (160 : Int)))) 13 (by kernel_rfl) rfl (by kernel_rfl) (by kernel_rfl) (by kernel_rfl) (by kernel_rfl) rfl (fun _ => by kernel_rfl) (Xg.wrap_i64_in (by omega)) ?_
          refine Xg.any_pure ((iv (↑x : Int))) 14 (by kernel_rfl) rfl (by kernel_rfl) (by kernel_rfl) (by kernel_rfl) (by kernel_rfl) rfl (fun _ => by kernel_rfl) ?_
          refine Xg.any_int .i64 (IntKind.wrap .i64 (((↑y : Int) * (160 : Int) + (↑x : Int)))) 15 (by kernel_rfl) rfl (by kernel_rfl) (by kernel_rfl) (by kernel_rfl) (by kernel_rfl) rfl (fun _ => by kernel_rfl) (Xg.wrap_i64_in (by omega)) ?_
          refine Xg.any_reads (.pointer (some (Addr.mk (Xg.blk xx8.fst) (offA xx8.fst + ((↑y : Int) * (160 : Int) + (↑x : Int)).toNat) none))) 16 2 (by kernel_rfl) rfl (by kernel_rfl) (by kernel_rfl) (by kernel_rfl) (by kernel_rfl) rfl rfl (by kernel_rfl) (Xg.rd_now 0 (Xg.reads_own (E := ((5 : TypeId))) (sz := ((1 : Nat))) (n := xx8.snd.snd.length) (c := xx8.snd.fst) (a := xx8.fst) (vs := (List.map (Value.int IntKind.u8) xx8.snd.snd))) (by kernel_rfl)) (Xg.run_ix_rd (elem := 5) (kd := .i64) (e := ((↑y : Int) * (160 : Int) + (↑x : Int))) 1 (((↑y : Int) * (160 : Int) + (↑x : Int)).toNat) (offA xx8.fst + ((↑y : Int) * (160 : Int) + (↑x : Int)).toNat) (by kernel_rfl) (by kernel_rfl) (by kernel_rfl) (by kernel_rfl) (by omega) (by omega) (by simp only [List.length_map]; omega) (by omega)) ?_
          refine Xg.any_reads (uv (xx8.snd.snd.getD ((↑y : Int) * (160 : Int) + (↑x : Int)).toNat (0 : Int))) 17 3 (by kernel_rfl) rfl (by kernel_rfl) (by kernel_rfl) (by kernel_rfl) (by kernel_rfl) rfl rfl (by kernel_rfl) (Xg.rd_now 0 (Xg.reads_own (E := ((5 : TypeId))) (sz := ((1 : Nat))) (n := xx8.snd.snd.length) (c := xx8.snd.fst) (a := xx8.fst) (vs := (List.map (Value.int IntKind.u8) xx8.snd.snd))) (by kernel_rfl)) (Xg.run_load_rd (off0 := (offA xx8.fst + ((↑y : Int) * (160 : Int) + (↑x : Int)).toNat)) (((↑y : Int) * (160 : Int) + (↑x : Int)).toNat) (by kernel_rfl) (by omega) (Xg.get_ints (by omega)) (by kernel_rfl)) ?_
          refine Xg.any_pure (.bool (!decide (((xx2.snd.snd.getD (((↑y : Int) + (↑xx3 : Int)) * (160 : Int) + (↑x : Int) + (↑xx4 : Int)).toNat (0 : Int)) : Int) = (xx8.snd.snd.getD ((↑y : Int) * (160 : Int) + (↑x : Int)).toNat (0 : Int))))) 18 (by kernel_rfl) rfl (by kernel_rfl) (by kernel_rfl) (by kernel_rfl) (by kernel_rfl) rfl (fun _ => by kernel_rfl) ?_
          refine Xg.any_nil (by kernel_rfl) ?_
          refine Xg.at_false (t := !decide ((xx2.snd.snd.getD (((↑y : Int) + (↑xx3 : Int)) * (160 : Int) + (↑x : Int) + (↑xx4 : Int)).toNat (0 : Int) = xx8.snd.snd.getD ((↑y : Int) * (160 : Int) + (↑x : Int)).toNat (0 : Int)))) (by kernel_rfl) (by rw [decide_eq_true (by omega)]; rfl) ?_
          refine Xg.at_skip ?_
          refine Xg.at_inBlock ?_
          refine Xg.at_region ?_
          refine Xg.ops_op (by kernel_rfl) (Xg.opx_pure ((iv (↑x : Int))) rfl (fun _ => by kernel_rfl) ?_)
          refine Xg.ops_op (by kernel_rfl) (Xg.opx_int .i64 (IntKind.wrap .i64 (((↑x : Int) + (1 : Int)))) rfl (fun _ => by kernel_rfl) (Xg.wrap_i64_in (by omega)) ?_)
          refine Xg.ops_op (by kernel_rfl) (Xg.opx_pure ((iv ((↑x : Int) + (1 : Int)))) rfl (fun _ => by kernel_rfl) ?_)
          refine Xg.ops_nil ?_
          refine Xg.at_inLoop ?_)
        (focus
          refine Xg.at_keep [0, 1, 2, 3, 4, 5] (by kernel_rfl) ?_
          refine Xg.At.same (by kernel_rfl) ?_ (ih2 (((x + 1)), fun j => ([Value.agg #[Value.slice s.ra s.rn s.rc, Value.slice s.oa s.on s.oc, Value.slice s.pa s.pn s.pc], iv scy, iv scx, iv dy, iv dx, pv xb1 0, tu, tu, tu, tu, J2 10, Value.slice xx2.fst xx2.snd.snd.length xx2.snd.fst, Value.bool true, iv (↑xx3 : Int), iv (↑xx4 : Int), Value.slice xx8.fst xx8.snd.snd.length xx8.snd.fst, Value.bool true, iv (↑y : Int), iv ((↑x : Int) + (1 : Int)), Value.tuple #[Value.slice xx2.fst xx2.snd.snd.length xx2.snd.fst, Value.bool true], Value.agg #[Value.slice s.ra s.rn s.rc, Value.slice s.oa s.on s.oc, Value.slice s.pa s.pn s.pc], iv scy, iv scx, Value.agg #[Value.slice (some (Addr.mk xx1.fst (0 : Nat) none)) (12 : Nat) (12 : Nat), Value.slice none (0 : Nat) (0 : Nat), Value.slice s.pa s.pn s.pc], Value.tuple #[Value.slice xx2.fst xx2.snd.snd.length xx2.snd.fst, Value.bool true], Value.slice xx2.fst xx2.snd.snd.length xx2.snd.fst, Value.bool true, iv dy, iv (↑xx3 : Int), iv dx, iv (↑xx4 : Int), Value.tuple #[Value.slice xx8.fst xx8.snd.snd.length xx8.snd.fst, Value.bool true], Value.agg #[Value.slice s.ra s.rn s.rc, Value.slice s.oa s.on s.oc, Value.slice s.pa s.pn s.pc], iv scy, iv (↑xx5 : Int), iv (↑xx3 : Int), iv ((↑xx5 : Int) + (↑xx3 : Int)), iv scx, iv (↑xx6 : Int), iv (↑xx4 : Int), iv ((↑xx6 : Int) + (↑xx4 : Int)), Value.agg #[Value.slice (some (Addr.mk xx7.fst (0 : Nat) none)) (12 : Nat) (12 : Nat), Value.slice none (0 : Nat) (0 : Nat), Value.slice s.pa s.pn s.pc], Value.tuple #[Value.slice xx8.fst xx8.snd.snd.length xx8.snd.fst, Value.bool true], Value.slice xx8.fst xx8.snd.snd.length xx8.snd.fst, Value.bool true, Value.bool true, Value.bool false, Value.bool false, Value.bool true, Value.bool false, Value.bool false, iv (↑y : Int), iv (↑xx3 : Int), iv ((↑y : Int) + (↑xx3 : Int)), Value.bool (decide ((↑y : Int) + (↑xx3 : Int) < (144 : Int))), J 55, J 56, iv (↑x : Int), iv (↑xx4 : Int), iv ((↑x : Int) + (↑xx4 : Int)), Value.bool (decide ((↑x : Int) + (↑xx4 : Int) < (160 : Int))), iv (↑x : Int), iv ((↑x : Int) + (1 : Int)), Value.slice xx2.fst xx2.snd.snd.length xx2.snd.fst, iv (↑y : Int), iv (↑xx3 : Int), iv ((↑y : Int) + (↑xx3 : Int)), iv (((↑y : Int) + (↑xx3 : Int)) * (160 : Int)), iv (↑x : Int), iv (((↑y : Int) + (↑xx3 : Int)) * (160 : Int) + (↑x : Int)), iv (↑xx4 : Int), iv (((↑y : Int) + (↑xx3 : Int)) * (160 : Int) + (↑x : Int) + (↑xx4 : Int)), Value.pointer (some (Addr.mk (blk xx2.fst) (offA xx2.fst + (((↑y : Int) + (↑xx3 : Int)) * (160 : Int) + (↑x : Int) + (↑xx4 : Int)).toNat) none)), uv (xx2.snd.snd.getD (((↑y : Int) + (↑xx3 : Int)) * (160 : Int) + (↑x : Int) + (↑xx4 : Int)).toNat (0 : Int)), Value.slice xx8.fst xx8.snd.snd.length xx8.snd.fst, iv (↑y : Int), iv ((↑y : Int) * (160 : Int)), iv (↑x : Int), iv ((↑y : Int) * (160 : Int) + (↑x : Int)), Value.pointer (some (Addr.mk (blk xx8.fst) (offA xx8.fst + ((↑y : Int) * (160 : Int) + (↑x : Int)).toNat) none)), uv (xx8.snd.snd.getD ((↑y : Int) * (160 : Int) + (↑x : Int)).toNat (0 : Int)), Value.bool !decide (xx2.snd.snd.getD (((↑y : Int) + (↑xx3 : Int)) * (160 : Int) + (↑x : Int) + (↑xx4 : Int)).toNat (0 : Int) = xx8.snd.snd.getD ((↑y : Int) * (160 : Int) + (↑x : Int)).toNat (0 : Int))] : List Value).getD j undef) ?_ ?_))
        · rfl
        · dsimp only; omega
        · dsimp only; omega
      · clear ih2
        (focus
          refine Xg.at_seq ?_
          refine Xg.at_seq ?_
          refine Xg.at_region ?_
          refine Xg.ops_op (by kernel_rfl) (Xg.opx_pure ((iv (↑x : Int))) rfl (fun _ => by kernel_rfl) ?_)
          refine Xg.ops_op (by kernel_rfl) (Xg.opx_pure ((iv (↑xx4 : Int))) rfl (fun _ => by kernel_rfl) ?_)
          refine Xg.ops_op (by kernel_rfl) (Xg.opx_int .i64 (IntKind.wrap .i64 (((↑x : Int) + (↑xx4 : Int)))) rfl (fun _ => by kernel_rfl) (Xg.wrap_i64_in (by omega)) ?_)
          refine Xg.ops_op (by kernel_rfl) (Xg.opx_pure (.bool (decide ((((↑x : Int) + (↑xx4 : Int)) : Int) < ((160 : Int))))) rfl (fun _ => by kernel_rfl) ?_)
          refine Xg.ops_nil ?_
          refine Xg.at_false (t := decide (((↑x : Int) + (↑xx4 : Int) < (160 : Int)))) (by kernel_rfl) (decide_eq_false (by omega)) ?_
          refine Xg.at_exit rfl ?_
          refine Xg.at_inBlock ?_
          refine Xg.at_region ?_
          refine Xg.ops_op (by kernel_rfl) (Xg.opx_pure ((iv (↑y : Int))) rfl (fun _ => by kernel_rfl) ?_)
          refine Xg.ops_op (by kernel_rfl) (Xg.opx_int .i64 (IntKind.wrap .i64 (((↑y : Int) + (1 : Int)))) rfl (fun _ => by kernel_rfl) (Xg.wrap_i64_in (by omega)) ?_)
          refine Xg.ops_op (by kernel_rfl) (Xg.opx_pure ((iv ((↑y : Int) + (1 : Int)))) rfl (fun _ => by kernel_rfl) ?_)
          refine Xg.ops_nil ?_
          refine Xg.at_inLoop ?_)
        (focus
          refine Xg.at_keep [0, 1, 2, 3, 4, 5] (by kernel_rfl) ?_
          refine Xg.At.same (by kernel_rfl) ?_ (ih (((y + 1)), fun j => ([Value.agg #[Value.slice s.ra s.rn s.rc, Value.slice s.oa s.on s.oc, Value.slice s.pa s.pn s.pc], iv scy, iv scx, iv dy, iv dx, pv xb1 0, tu, tu, tu, tu, J2 10, Value.slice xx2.fst xx2.snd.snd.length xx2.snd.fst, Value.bool true, iv (↑xx3 : Int), iv (↑xx4 : Int), Value.slice xx8.fst xx8.snd.snd.length xx8.snd.fst, Value.bool true, iv ((↑y : Int) + (1 : Int)), iv (↑x : Int), Value.tuple #[Value.slice xx2.fst xx2.snd.snd.length xx2.snd.fst, Value.bool true], Value.agg #[Value.slice s.ra s.rn s.rc, Value.slice s.oa s.on s.oc, Value.slice s.pa s.pn s.pc], iv scy, iv scx, Value.agg #[Value.slice (some (Addr.mk xx1.fst (0 : Nat) none)) (12 : Nat) (12 : Nat), Value.slice none (0 : Nat) (0 : Nat), Value.slice s.pa s.pn s.pc], Value.tuple #[Value.slice xx2.fst xx2.snd.snd.length xx2.snd.fst, Value.bool true], Value.slice xx2.fst xx2.snd.snd.length xx2.snd.fst, Value.bool true, iv dy, iv (↑xx3 : Int), iv dx, iv (↑xx4 : Int), Value.tuple #[Value.slice xx8.fst xx8.snd.snd.length xx8.snd.fst, Value.bool true], Value.agg #[Value.slice s.ra s.rn s.rc, Value.slice s.oa s.on s.oc, Value.slice s.pa s.pn s.pc], iv scy, iv (↑xx5 : Int), iv (↑xx3 : Int), iv ((↑xx5 : Int) + (↑xx3 : Int)), iv scx, iv (↑xx6 : Int), iv (↑xx4 : Int), iv ((↑xx6 : Int) + (↑xx4 : Int)), Value.agg #[Value.slice (some (Addr.mk xx7.fst (0 : Nat) none)) (12 : Nat) (12 : Nat), Value.slice none (0 : Nat) (0 : Nat), Value.slice s.pa s.pn s.pc], Value.tuple #[Value.slice xx8.fst xx8.snd.snd.length xx8.snd.fst, Value.bool true], Value.slice xx8.fst xx8.snd.snd.length xx8.snd.fst, Value.bool true, Value.bool true, Value.bool false, Value.bool false, Value.bool true, Value.bool false, Value.bool false, iv (↑y : Int), iv (↑xx3 : Int), iv ((↑y : Int) + (↑xx3 : Int)), Value.bool (decide ((↑y : Int) + (↑xx3 : Int) < (144 : Int))), iv (↑y : Int), iv ((↑y : Int) + (1 : Int)), iv (↑x : Int), iv (↑xx4 : Int), iv ((↑x : Int) + (↑xx4 : Int)), Value.bool (decide ((↑x : Int) + (↑xx4 : Int) < (160 : Int))), J2 61, J2 62, J2 63, J2 64, J2 65, J2 66, J2 67, J2 68, J2 69, J2 70, J2 71, J2 72, J2 73, J2 74, J2 75, J2 76, J2 77, J2 78, J2 79, J2 80, J2 81] : List Value).getD j undef) ?_ ?_))
        · rfl
        · dsimp only; omega
        · dsimp only; omega
    · clear ih
      (focus
        refine Xg.at_seq ?_
        refine Xg.at_seq ?_
        refine Xg.at_region ?_
        refine Xg.ops_op (by kernel_rfl) (Xg.opx_pure ((iv (↑y : Int))) rfl (fun _ => by kernel_rfl) ?_)
        refine Xg.ops_op (by kernel_rfl) (Xg.opx_pure ((iv (↑xx3 : Int))) rfl (fun _ => by kernel_rfl) ?_)
        refine Xg.ops_op (by kernel_rfl) (Xg.opx_int .i64 (IntKind.wrap .i64 (((↑y : Int) + (↑xx3 : Int)))) rfl (fun _ => by kernel_rfl) (Xg.wrap_i64_in (by omega)) ?_)
        refine Xg.ops_op (by kernel_rfl) (Xg.opx_pure (.bool (decide ((((↑y : Int) + (↑xx3 : Int)) : Int) < ((144 : Int))))) rfl (fun _ => by kernel_rfl) ?_)
        refine Xg.ops_nil ?_
        refine Xg.at_false (t := decide (((↑y : Int) + (↑xx3 : Int) < (144 : Int)))) (by kernel_rfl) (decide_eq_false (by omega)) ?_
        refine Xg.at_exit rfl ?_
        refine Xg.at_seq ?_
        refine Xg.at_region ?_
        refine Xg.ops_op (by kernel_rfl) (Xg.opx_pure ((Value.bool true)) rfl (fun _ => by kernel_rfl) ?_)
        refine Xg.ops_nil ?_
        refine Xg.at_ret_ps (v := (Value.bool true)) [2] [A] Go.Proofs.Try.func6 (fun _ => by kernel_rfl) (by kernel_rfl) (by kernel_rfl) ?_
        exact ⟨by kernel_rfl, by kernel_rfl⟩)

end Go.Proofs.Ytkfclamiendamaa
