/- The picture's laws: a scene's frame. -/
import Derived.Test.YtkfclamiendamaaKV26
import Derived.Test.YtkfclamiendamaaKS
import Derived.Test.YtkfclamiendamaaKV27
namespace Go.Proofs.Ytkfclamiendamaa
open Go.Sl Go.Xg
set_option linter.unusedVariables false
set_option linter.unusedSimpArgs false
set_option maxHeartbeats 4000000
set_option maxRecDepth 100000

/-- A state that a scene gives: what it is drawn by. -/
noncomputable def scP (s : Sn) : Pp := { newP with regs := fun i => if i = 0 ∨ i = 2 ∨ i = 3 ∨ (7 ≤ i ∧ i < 12) then regI s i else 0, vram := putP newP.vram s.ps s.pn, oam := oamI s }
theorem scP_reg (s : Sn) (i : Nat) (h : i = 0 ∨ i = 2 ∨ i = 3 ∨ (7 ≤ i ∧ i < 12)) : (scP s).regs i = regI s i := if_pos h
theorem done_at4 {s : Sn} {V : Nat → Int} {τ : Pp} (h : Done s V τ) : At4 0 τ := by
  have h0 : 128 ≤ regI s 0 ∧ regI s 0 ≤ 255 := by
    unfold regI
    rw [if_pos rfl]
    exact or128 _ (by have := pickN_lt (s.rs.getD 0 0) 256 (by omega); split <;> omega)
  exact ⟨h.ok, by rw [h.r0]; unfold hasB; exact decide_eq_true (by omega), by rw [h.ly]; rfl, by rw [h.clk]; rfl⟩

/-- What is seen at a point hangs on registers, VRAM and the table of sprites alone. -/
structure Like (σ τ : Pp) : Prop where
  r0 : τ.regs 0 = σ.regs 0
  r2 : τ.regs 2 = σ.regs 2
  r3 : τ.regs 3 = σ.regs 3
  rp : ∀ i, 7 ≤ i ∧ i < 12 → τ.regs i = σ.regs i
  vram : τ.vram = σ.vram
  oam : ∀ i, i < 160 → τ.oam i = σ.oam i
theorem like_line {σ τ : Pp} (h : Like σ τ) (y : Nat) : Like (lineSt σ y) (lineSt τ y) ∧ (lineSt τ y).regs 4 = (lineSt σ y).regs 4 ∧ (lineSt τ y).seen = (lineSt σ y).seen ∧ (lineSt τ y).rows = (lineSt σ y).rows := by
  have hw : winOK τ = winOK σ := by unfold winOK; rw [h.r0, h.rp 11 (by omega)]
  refine ⟨⟨?_, ?_, ?_, fun i hi => ?_, h.vram, h.oam⟩, ?_, ?_, ?_⟩
  · show upd τ.regs 4 y 0 = upd σ.regs 4 y 0; rw [upd_ne (by omega), upd_ne (by omega), h.r0]
  · show upd τ.regs 4 y 2 = upd σ.regs 4 y 2; rw [upd_ne (by omega), upd_ne (by omega), h.r2]
  · show upd τ.regs 4 y 3 = upd σ.regs 4 y 3; rw [upd_ne (by omega), upd_ne (by omega), h.r3]
  · show upd τ.regs 4 y i = upd σ.regs 4 y i; rw [upd_ne (by omega), upd_ne (by omega), h.rp i hi]
  · show upd τ.regs 4 y 4 = upd σ.regs 4 y 4; rw [upd_same, upd_same]
  · show decide (τ.regs 10 ≤ (y : Int)) = decide (σ.regs 10 ≤ (y : Int)); rw [h.rp 10 (by omega)]
  · show (if winOK τ = true ∧ τ.regs 10 ≤ (y : Int) then (y : Int) - τ.regs 10 else 0) = (if winOK σ = true ∧ σ.regs 10 ≤ (y : Int) then (y : Int) - σ.regs 10 else 0)
    rw [hw, h.rp 10 (by omega)]
theorem like_num {σ τ : Pp} (h : Like σ τ) (pl : Nat) (c : Int) : numI τ pl c = numI σ pl c := by unfold numI; rw [h.vram]
theorem like_height {σ τ : Pp} (h : Like σ τ) : heightI τ = heightI σ := by unfold heightI; rw [h.r0]
theorem like_tile {σ τ : Pp} (h : Like σ τ) (b : Bool) (r c : Int) : tileI τ b r c = tileI σ b r c := by
  unfold tileI placeI; rw [like_num h, h.vram, h.r0]
theorem like_point {σ τ : Pp} (h : Like σ τ) (s : Spr) (r c : Int) : pointI τ s r c = pointI σ s r c := by
  unfold pointI rowI; rw [like_num h, like_height h, h.r0]
theorem like_ov {σ τ : Pp} (h : Like σ τ) (y x : Int) (L : List Spr) (k : Nat) : ovN τ y x L k = ovN σ y x L k := by
  induction k with
  | zero => rfl
  | succ k ih => rw [ovN, ovN, ih]; unfold ovS; rw [like_point h]
theorem like_sel {σ τ : Pp} (h : Like σ τ) (y : Int) (k : Nat) (hk : k ≤ 40) : selN τ y k = selN σ y k := by
  induction k with
  | zero => rfl
  | succ k ih =>
    have e : sprA τ k = sprA σ k := by
      unfold sprA
      rw [h.oam (4 * k) (by omega), h.oam (4 * k + 1) (by omega), h.oam (4 * k + 2) (by omega), h.oam (4 * k + 3) (by omega)]
    rw [selN, selN, ih (by omega), e, like_height h]
theorem like_spr {σ τ : Pp} (h : Like σ τ) (y : Int) : sprL τ y = sprL σ y := by unfold sprL; rw [h.r0, like_sel h y 40 (by omega)]
theorem like_pic {σ τ : Pp} (h : Like σ τ) (y x : Nat) : PIC τ y x = PIC σ y x := by
  obtain ⟨h1, h4, hs, hr⟩ := like_line h y
  unfold PIC pixI overI
  rw [like_spr h1, h4, like_ov h1]
  obtain ⟨L, hL⟩ : ∃ L, sprL (lineSt σ y) (y : Int) = L := ⟨_, rfl⟩
  rw [hL]
  have hg : groundI (lineSt τ y) (x : Int) = groundI (lineSt σ y) (x : Int) := by
    have hw : winB (lineSt τ y) = winB (lineSt σ y) := by unfold winB; rw [h1.r0, hs, h1.rp 11 (by omega)]
    unfold groundI
    rw [hw, hr, h4, h1.r0, h1.r2, h1.r3, h1.rp 11 (by omega), like_tile h1, like_tile h1]
  rw [hg]
  unfold mixI palI
  have h7 : (lineSt τ y).regs (7 : Int).toNat = (lineSt σ y).regs (7 : Int).toNat := h1.rp 7 (by omega)
  rw [h7]
  have h8 : ∀ b : Int, b = 0 ∨ b = 1 → (lineSt τ y).regs (8 + b).toNat = (lineSt σ y).regs (8 + b).toNat := fun b hb => h1.rp _ (by omega)
  rw [h8 _ (by omega)]
theorem done_like {s : Sn} {τ : Pp} (h : Done s newP.vram τ) : Like (scP s) τ :=
  ⟨h.r0.trans (scP_reg s 0 (by omega)).symm, (h.r1 2 (by omega)).trans (scP_reg s 2 (by omega)).symm, (h.r1 3 (by omega)).trans (scP_reg s 3 (by omega)).symm, fun i hi => (h.r1 i (by omega)).trans (scP_reg s i (by omega)).symm, h.vram, h.oam⟩

/-- A scene's picture: 23040 points. -/
structure Shot (s : Sn) (xs : List Int) : Prop where
  len : xs.length = 23040
  pic : ∀ y x, y < 144 → x < 160 → xs.getD (160 * y + x) 0 = PIC (scP s) y x
theorem shot_of {s : Sn} {τ : Pp} {xs : List Int} (h : Done s newP.vram τ) (hl : xs.length = 23040) (hx : ∀ i, i < 23040 → xs.getD i 0 = (ticks 16416 τ).last i) : Shot s xs :=
  ⟨hl, fun y x hy hx2 => by rw [hx _ (by omega), shows (done_at4 h) h.seen h.rows y x hy hx2, like_pic (done_like h)]⟩
theorem PIC_bd (σ : Pp) (y x : Nat) : 0 ≤ PIC σ y x ∧ PIC σ y x ≤ 3 := pixI_bd _ _ _

set_option maxHeartbeats 0 in
theorem shot_0 (A : HP) (s : Sn) (hs : s.Ok A) : Does Try.prog 26 [snV s] [A] (RetE (fun x : Option Addr × Nat × List Int => Shot s x.2.2 ∧ x.2.2.length = 23040) (fun x => .tuple #[.slice x.1 x.2.2.length x.2.1, .bool (decide ((x.2.2.length : Int) = (23040 : Int)))]) (fun x => [ints 5 .u8 x.1 x.2.1 x.2.2, A])) := by
  have hone : ∀ p σ, σ.Ok → Done s newP.vram σ → Does Try.prog 39 [pt p] [PpR p σ] (RetE (fun x : Option Addr × Nat × List Int => Shot s x.2.2 ∧ x.2.2.length = 23040) (fun x => .slice x.1 x.2.2.length x.2.1) (fun x => [ints 5 .u8 x.1 x.2.1 x.2.2, PpR p (ticks 16416 σ)])) := fun p σ ho hd =>
    (one_d p σ _ ho rfl).mono fun _ _ ⟨x, ⟨h1, h2⟩, e1, e2⟩ => ⟨x, ⟨shot_of hd h1 h2, h1⟩, e1, e2⟩
  have hone2 : ∀ p σ, Done s newP.vram σ → Does Try.prog 39 [pt p] [PpR p σ] (RetE (fun x : Option Addr × Nat × List Int => Shot s x.2.2 ∧ x.2.2.length = 23040) (fun x => .slice x.1 x.2.2.length x.2.1) (fun x => [ints 5 .u8 x.1 x.2.1 x.2.2, PpR p (ticks 16416 σ)])) := fun p σ hd => hone p σ hd.ok hd
  have hnew : Does Try.prog 21 [] [] (RetE (fun x : Nat => True) (fun x => pt x) (fun x => [PpR x newP])) := new_d
  have hset2 : ∀ p, Does Try.prog 37 [snV s, pt p] [A, PpR p newP] (RetE (fun x : Pp => Done s newP.vram x) (fun x => .tuple #[]) (fun x => [A, PpR p x])) := fun p => set_s A s hs p newP ok_new newP.vram rfl
  (focus
    refine Xg.spec_of Go.Proofs.Try.func26 rfl Go.Proofs.Try.ntmps26 fun g F => ?_)
  (focus
    refine Xg.at_seq ?_
    refine Xg.at_region ?_
    refine Xg.ops_op (by kernel_rfl) (Xg.opx_box (v := (Value.agg #[Value.slice s.ra s.rn s.rc, Value.slice s.oa s.on s.oc, Value.slice s.pa s.pn s.pc])) [Value.slice s.ra s.rn s.rc, Value.slice s.oa s.on s.oc, Value.slice s.pa s.pn s.pc] (by kernel_rfl) (by kernel_rfl) fun xb1 => ?_)
    refine Xg.ops_op (by kernel_rfl) (Xg.opx_pure ((Value.slice none (0 : Nat) (0 : Nat))) rfl (fun _ => by kernel_rfl) ?_)
    refine Xg.ops_op (by kernel_rfl) (Xg.opx_pure ((Value.bool false)) rfl (fun _ => by kernel_rfl) ?_)
    refine Xg.ops_nil ?_
    refine Xg.at_seq ?_
    refine Xg.at_region ?_
    refine Xg.ops_op (by kernel_rfl) (Xg.opx_callE' [] (fun xx1 => [PpR xx1 newP, row xb1 (36 : Nat) [Value.slice s.ra s.rn s.rc, Value.slice s.oa s.on s.oc, Value.slice s.pa s.pn s.pc], A]) (fun _ => by kernel_rfl) (@hnew ) (by kernel_rfl) (by kernel_rfl) (by kernel_rfl) fun xx1 xh1 => ?_)
    try dsimp only at xh1
    refine Xg.ops_op (by kernel_rfl) (Xg.opx_pure ((pv xx1 0)) rfl (fun _ => by kernel_rfl) ?_)
    refine Xg.ops_nil ?_
    refine Xg.at_seq ?_
    refine Xg.at_seq ?_
    refine Xg.at_region ?_
    refine Xg.ops_op (by kernel_rfl) (Xg.opx_pure ((pv xx1 0)) rfl (fun _ => by kernel_rfl) ?_)
    refine Xg.ops_op (by kernel_rfl) (Xg.opx_pure ((Value.bool false)) rfl (fun _ => by kernel_rfl) ?_)
    refine Xg.ops_nil ?_
    refine Xg.at_false (t := false) (by kernel_rfl) rfl ?_
    refine Xg.at_skip ?_
    refine Xg.at_seq ?_
    refine Xg.at_region ?_
    refine Xg.ops_op (by kernel_rfl) (Xg.opx_loadn (off := 0) 3 1 [Value.slice s.ra s.rn s.rc, Value.slice s.oa s.on s.oc, Value.slice s.pa s.pn s.pc] (by kernel_rfl) rfl (by kernel_rfl) rfl (Xg.cells_at (by kernel_rfl)) (by kernel_rfl) ?_)
    refine Xg.ops_op (by kernel_rfl) (Xg.opx_pure ((pv xx1 0)) rfl (fun _ => by kernel_rfl) ?_)
    refine Xg.ops_op (by kernel_rfl) (Xg.opx_callE' [2, 0] (fun xx2 => [A, PpR xx1 xx2, row xb1 (36 : Nat) [Value.slice s.ra s.rn s.rc, Value.slice s.oa s.on s.oc, Value.slice s.pa s.pn s.pc]]) (fun _ => by kernel_rfl) (@hset2 (xx1)) (by kernel_rfl) (by kernel_rfl) (by kernel_rfl) fun xx2 xh2 => ?_)
    try dsimp only at xh2
    refine Xg.ops_nil ?_
    refine Xg.at_seq ?_
    refine Xg.at_region ?_
    refine Xg.ops_op (by kernel_rfl) (Xg.opx_pure ((pv xx1 0)) rfl (fun _ => by kernel_rfl) ?_)
    refine Xg.ops_op (by kernel_rfl) (Xg.opx_callE' [1] (fun xx3 => [ints (5 : TypeId) IntKind.u8 xx3.fst xx3.snd.fst xx3.snd.snd, PpR xx1 (ticks (16416 : Nat) xx2), A, row xb1 (36 : Nat) [Value.slice s.ra s.rn s.rc, Value.slice s.oa s.on s.oc, Value.slice s.pa s.pn s.pc]]) (fun _ => by kernel_rfl) (@hone2 (xx1) (xx2) (by omega)) (by kernel_rfl) (by kernel_rfl) (by kernel_rfl) fun xx3 xh3 => ?_)
    try dsimp only at xh3
    obtain ⟨xh3_0, xh3_1⟩ := xh3
    refine Xg.ops_op (by kernel_rfl) (Xg.opx_pure ((Value.slice xx3.fst xx3.snd.snd.length xx3.snd.fst)) rfl (fun _ => by kernel_rfl) ?_)
    refine Xg.ops_nil ?_
    refine Xg.at_seq ?_
    refine Xg.at_region ?_
    refine Xg.ops_op (by kernel_rfl) (Xg.opx_pure ((Value.slice xx3.fst xx3.snd.snd.length xx3.snd.fst)) rfl (fun _ => by kernel_rfl) ?_)
    refine Xg.ops_op (by kernel_rfl) (Xg.opx_pure ((Value.slice xx3.fst xx3.snd.snd.length xx3.snd.fst)) rfl (fun _ => by kernel_rfl) ?_)
    refine Xg.ops_op (by kernel_rfl) (Xg.opx_pure ((iv (↑xx3.snd.snd.length : Int))) rfl (fun _ => by kernel_rfl) ?_)
    refine Xg.ops_op (by kernel_rfl) (Xg.opx_pure (.bool (decide ((((↑xx3.snd.snd.length : Int)) : Int) = ((23040 : Int))))) rfl (fun _ => by kernel_rfl) ?_)
    refine Xg.ops_op (by kernel_rfl) (Xg.opx_pure ((Value.slice xx3.fst xx3.snd.snd.length xx3.snd.fst)) rfl (fun _ => by kernel_rfl) ?_)
    refine Xg.ops_op (by kernel_rfl) (Xg.opx_pure ((Value.bool (decide ((↑xx3.snd.snd.length : Int) = (23040 : Int))))) rfl (fun _ => by kernel_rfl) ?_)
    refine Xg.ops_nil ?_
    refine Xg.at_ret_ps (v := (Value.tuple #[Value.slice xx3.fst xx3.snd.snd.length xx3.snd.fst, Value.bool (decide ((↑xx3.snd.snd.length : Int) = (23040 : Int)))])) [0, 2] [ints (5 : TypeId) IntKind.u8 xx3.fst xx3.snd.fst xx3.snd.snd, A] Go.Proofs.Try.func26 (fun _ => by kernel_rfl) (by kernel_rfl) (by kernel_rfl) ?_
    refine ⟨((xx3.fst, xx3.2.fst, xx3.2.snd)), ?_, ?_, ?_⟩
    rotate_left
    rotate_left)
  all_goals first | exact ⟨by assumption, by assumption⟩ | rfl

theorem shot_d (A : HP) (s : Sn) (hs : s.Ok A) : Does Try.prog 26 [snV s] [A] (RetE (fun x : Option Addr × Nat × List Int => Shot s x.2.2 ∧ x.2.2.length = 23040) (fun x => .tuple #[.slice x.1 x.2.2.length x.2.1, .bool true]) (fun x => [ints 5 .u8 x.1 x.2.1 x.2.2, A])) :=
  (shot_0 A s hs).mono fun _ _ ⟨x, ⟨h1, h2⟩, e1, e2⟩ => ⟨x, ⟨h1, h2⟩, by
    rw [e1]
    show Value.tuple #[_, Value.bool (decide ((x.2.2.length : Int) = (23040 : Int)))] = Value.tuple #[_, Value.bool true]
    rw [decide_eq_true (by omega : (x.2.2.length : Int) = (23040 : Int))], e2⟩

end Go.Proofs.Ytkfclamiendamaa
