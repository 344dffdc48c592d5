/- The picture's functions: a line is drawn. -/
import Derived.Test.YtkfclamiendamaaKV17
import Derived.Test.YtkfclamiendamaaKS
namespace Go.Proofs.Ytkfclamiendamaa
open Go.Sl Go.Xg
set_option linter.unusedVariables false
set_option linter.unusedSimpArgs false
set_option maxHeartbeats 4000000
set_option maxRecDepth 100000

/-- Points of maps while a line is drawn. -/
theorem tile_n (p : Nat) (σ : Pp) (f : Nat → Int) (hσ : σ.Wf) (hf : ∀ i, 0 ≤ f i ∧ f i ≤ 3) (high : Bool) (row col : Int) (hr : 0 ≤ row ∧ row ≤ 255) (hc : 0 ≤ col ∧ col ≤ 255) : Does Try.prog 76 [pt p, .bool high, .int .i64 row, .int .i64 col] [PpR p { σ with now := f }]
    (RetE (fun m : Int => m = tileI σ high row col ∧ 0 ≤ m ∧ m ≤ 3) (fun m => .int .i64 m) (fun _ => [PpR p { σ with now := f }])) :=
  (tile_d p { σ with now := f } (wf_now hσ hf) high row col hr hc).mono fun _ _ ⟨e1, e2⟩ => ⟨tileI σ high row col, ⟨rfl, numI_bd _ _ _⟩, e1, e2⟩
theorem colour_n (p : Nat) (σ : Pp) (f : Nat → Int) (hσ : σ.Wf) (hf : ∀ i, 0 ≤ f i ∧ f i ≤ 3) (r n : Int) (hr : 0 ≤ r ∧ r ≤ 11) (hn : 0 ≤ n ∧ n ≤ 3) : Does Try.prog 77 [pt p, .int .i64 r, .int .i64 n] [PpR p { σ with now := f }]
    (RetE (fun m : Int => m = palI σ r n ∧ 0 ≤ m ∧ m ≤ 3) (fun m => .int .u8 m) (fun _ => [PpR p { σ with now := f }])) :=
  (colour_d p { σ with now := f } (wf_now hσ hf) r n hr hn).mono fun _ _ ⟨e1, e2⟩ => ⟨palI σ r n, ⟨rfl, palI_bd _ _ _⟩, e1, e2⟩
theorem ovN_now (σ : Pp) (f : Nat → Int) (y x : Int) (l : List Spr) (k : Nat) : ovN { σ with now := f } y x l k = ovN σ y x l k := by
  induction k with
  | zero => rfl
  | succ k ih => rw [ovN, ovN, ih]; rfl
theorem over_n (p : Nat) (σ : Pp) (f : Nat → Int) (hσ : σ.Wf) (hf : ∀ i, 0 ≤ f i ∧ f i ≤ 3) (a : Option Addr) (c : Nat) (l : List Spr) (hlen : l.length ≤ 10) (y x0 : Int) (hy : 0 ≤ y ∧ y ≤ 255) (hx : 0 ≤ x0 ∧ x0 ≤ 159) (hl : ∀ i, i < l.length → (l.getD i default).Ok ∧ (l.getD i default).row ≤ y ∧ y < (l.getD i default).row + heightI σ) :
    Does Try.prog 78 [pt p, .slice a l.length c, .int .i64 y, .int .i64 x0] [recsO 105 4 sprC a c l, PpR p { σ with now := f }]
    (RetE (fun r : Spr × Int => r = overI σ y x0 l ∧ 0 ≤ r.2 ∧ r.2 ≤ 3 ∧ (0 ≤ r.1.flags ∧ r.1.flags ≤ 255) ∧ band .i64 (r.1.flags / 16) 1 = r.1.flags / 16 % 2) (fun r => .tuple #[.agg #[.int .i64 r.1.row, .int .i64 r.1.column, .int .i64 r.1.tile, .int .i64 r.1.flags], .int .i64 r.2]) (fun _ => [recsO 105 4 sprC a c l, PpR p { σ with now := f }])) :=
  (over_d p { σ with now := f } (wf_now hσ hf) l rfl hlen reads_own y x0 hy hx hl).mono fun _ _ ⟨r, ⟨h1, h2, h3, h4, h5⟩, e1, e2⟩ => ⟨r, ⟨h1.trans (ovN_now σ f y x0 l _), h2, h3, ⟨h4, h5⟩, by
    exact band64_1 (by omega)⟩, e1, e2⟩

/-- Each of a line's sprites is one of the line. -/
theorem selN_ok {σ : Pp} (h : σ.Wf) (y : Int) (k : Nat) : ∀ s ∈ selN σ y k, s.Ok ∧ s.row ≤ y ∧ y < s.row + heightI σ := by
  induction k with
  | zero => intro s hs; cases hs
  | succ k ih =>
    intro s hs
    unfold selN at hs
    split at hs
    · rename_i hc
      rcases List.mem_append.mp hs with hs | hs
      · exact ih s hs
      · obtain rfl := List.mem_singleton.mp hs
        exact ⟨sprA_ok h k, hc.2⟩
    · exact ih s hs
theorem sprL_ok {σ : Pp} (h : σ.Wf) (y : Int) : (sprL σ y).length ≤ 10 ∧ ∀ i, i < (sprL σ y).length → ((sprL σ y).getD i default).Ok ∧ ((sprL σ y).getD i default).row ≤ y ∧ y < ((sprL σ y).getD i default).row + heightI σ := by
  unfold sprL
  split
  · exact ⟨selN_len σ y 40, fun i hi => selN_ok h y 40 _ (by rw [show (selN σ y 40).getD i default = (selN σ y 40)[i] from by simp [List.getD, hi]]; exact List.getElem_mem hi)⟩
  · exact ⟨Nat.zero_le _, fun i hi => absurd hi (Nat.not_lt_zero _)⟩
theorem sprites_e (p : Nat) (σ : Pp) (hσ : σ.Wf) (L : List Spr) (hL : sprL σ (σ.regs 4) = L) : Does Try.prog 75 [pt p, .int .i64 (σ.regs 4)] [PpR p σ]
    (RetE (fun _ : Option Addr × Nat => True) (fun x => .slice x.1 L.length x.2) (fun x => [recsO 105 4 sprC x.1 x.2 L, PpR p σ])) := by
  have := sprites_d p σ hσ (σ.regs 4) (hσ.regs 4)
  rwa [hL] at this

set_option maxHeartbeats 0 in
theorem draw_a0 (p : Nat) (σ : Pp) (hσ : σ.Wf) (hly : σ.regs 4 < 144) (hrows : σ.rows ≤ 143) (b5 : hasB (σ.regs 0) 5 = false) (b0 : hasB (σ.regs 0) 0 = false) : Does Try.prog 59 [pt p] [PpR p σ] (Ret (.tuple #[]) [PpR p (drawP σ)]) := by
  have h0 := hσ.regs 0
  have h2 := hσ.regs 2
  have h3 := hσ.regs 3
  have h4 := hσ.regs 4
  have h11 := hσ.regs 11
  have hr := hσ.rows
  have hw : winB σ = false := by unfold winB; simp [*]
  obtain ⟨L, hL⟩ : ∃ L, sprL σ (σ.regs 4) = L := ⟨_, rfl⟩
  have hLo := sprL_ok hσ (σ.regs 4)
  rw [hL] at hLo
  obtain ⟨hL10, hLk⟩ := hLo
  have hG : drawP σ = { σ with now := drawF σ L 160, rows := σ.rows } := by
    unfold drawP
    rw [hL, hw]
    rfl
  have hsp := sprites_e p σ hσ L hL
  have h5c : Does Try.prog 74 [pt p, .int .i64 5] [PpR p σ] (Ret (.bool false) [PpR p σ]) := by
    have := has_5 p σ h0
    rwa [b5] at this
  have h0c : ∀ f, Does Try.prog 74 [pt p, .int .i64 0] [PpR p { σ with now := f }] (Ret (.bool false) [PpR p { σ with now := f }]) := fun f => by
    have := has_0 p { σ with now := f } h0
    rwa [show hasB (({ σ with now := f } : Pp).regs 0) 0 = false from b0] at this
  have h3c : ∀ f, Does Try.prog 74 [pt p, .int .i64 3] [PpR p { σ with now := f }] (Ret (.bool (hasB (σ.regs 0) 3)) [PpR p { σ with now := f }]) := fun f => has_3 p { σ with now := f } h0
  have h6c : ∀ f, Does Try.prog 74 [pt p, .int .i64 6] [PpR p { σ with now := f }] (Ret (.bool (hasB (σ.regs 0) 6)) [PpR p { σ with now := f }]) := fun f => has_6 p { σ with now := f } h0
  rw [hG]
  (focus
    refine Xg.spec_of Go.Proofs.Try.func59 rfl Go.Proofs.Try.ntmps59 fun g F => ?_)
  (focus
    refine Xg.at_seq ?_
    refine Xg.at_region ?_
    refine Xg.ops_op (by kernel_rfl) (Xg.opx_pure ((pv p 0)) rfl (fun _ => by kernel_rfl) ?_)
    refine Xg.ops_op (by kernel_rfl) (Xg.opx_pure ((pv p 0)) rfl (fun _ => by kernel_rfl) ?_)
    refine Xg.ops_op (by kernel_rfl) (Xg.opx_pure ((pv p 0)) rfl (fun _ => by kernel_rfl) ?_)
    refine Xg.ops_op (by kernel_rfl) (Xg.opx_pure (pv p 4) rfl (fun _ => by kernel_rfl) ?_)
    refine Xg.ops_op (by kernel_rfl) (Xg.opx_load (b := p) (off := ((4 : Nat))) 0 (iv (σ.regs 4)) rfl (by kernel_rfl) (@Go.Proofs.Ytkfclamiendamaa.g_regs (σ) (((4 : Nat))) (by omega)) (by kernel_rfl) ?_)
    refine Xg.ops_op (by kernel_rfl) (Xg.opx_pure ((iv (σ.regs 4))) rfl (fun _ => by kernel_rfl) ?_)
    refine Xg.ops_nil ?_
    refine Xg.at_seq ?_
    refine Xg.at_region ?_
    refine Xg.ops_op (by kernel_rfl) (Xg.opx_pure ((pv p 0)) rfl (fun _ => by kernel_rfl) ?_)
    refine Xg.ops_op (by kernel_rfl) (Xg.opx_call1' [0] [PpR p σ] (fun _ => by kernel_rfl) (@h5c ) (by kernel_rfl) (by kernel_rfl) (by kernel_rfl) ?_)
    refine Xg.ops_op (by kernel_rfl) (Xg.opx_pure ((Value.bool false)) rfl (fun _ => by kernel_rfl) ?_)
    refine Xg.ops_skip (by kernel_rfl) ?_
    refine Xg.ops_skip (by kernel_rfl) ?_
    refine Xg.ops_skip (by kernel_rfl) ?_
    refine Xg.ops_skip (by kernel_rfl) ?_
    refine Xg.ops_op (by kernel_rfl) (Xg.opx_pure ((Value.bool false)) rfl (fun _ => by kernel_rfl) ?_)
    refine Xg.ops_op (by kernel_rfl) (Xg.opx_pure ((Value.bool false)) rfl (fun _ => by kernel_rfl) ?_)
    refine Xg.ops_skip (by kernel_rfl) ?_
    refine Xg.ops_skip (by kernel_rfl) ?_
    refine Xg.ops_skip (by kernel_rfl) ?_
    refine Xg.ops_skip (by kernel_rfl) ?_
    refine Xg.ops_skip (by kernel_rfl) ?_
    refine Xg.ops_skip (by kernel_rfl) ?_
    refine Xg.ops_op (by kernel_rfl) (Xg.opx_pure ((Value.bool false)) rfl (fun _ => by kernel_rfl) ?_)
    refine Xg.ops_op (by kernel_rfl) (Xg.opx_pure ((Value.bool false)) rfl (fun _ => by kernel_rfl) ?_)
    refine Xg.ops_nil ?_
    refine Xg.at_seq ?_
    refine Xg.at_region ?_
    refine Xg.ops_op (by kernel_rfl) (Xg.opx_pure ((pv p 0)) rfl (fun _ => by kernel_rfl) ?_)
    refine Xg.ops_op (by kernel_rfl) (Xg.opx_pure ((iv (σ.regs 4))) rfl (fun _ => by kernel_rfl) ?_)
    refine Xg.ops_op (by kernel_rfl) (Xg.opx_callE' [0] (fun xx1 => [recsO (105 : Nat) (4 : Nat) sprC xx1.fst xx1.snd L, PpR p σ]) (fun _ => by kernel_rfl) (@hsp ) (by kernel_rfl) (by kernel_rfl) (by kernel_rfl) fun xx1 xh1 => ?_)
    try dsimp only at xh1
    refine Xg.ops_op (by kernel_rfl) (Xg.opx_pure ((Value.slice xx1.fst L.length xx1.snd)) rfl (fun _ => by kernel_rfl) ?_)
    refine Xg.ops_nil ?_
    refine Xg.at_seq ?_
    refine Xg.at_seq ?_
    refine Xg.at_region ?_
    refine Xg.ops_op (by kernel_rfl) (Xg.opx_pure ((iv 0)) rfl (fun _ => by kernel_rfl) ?_)
    refine Xg.ops_nil ?_
    refine Xg.at_block ?_)
  skip
  (focus
    refine Xg.at_rounds_inv (α := (Nat × (Nat → Int)) × (Nat → Value)) (fun x => ((fun k => k.1 ≤ 160 ∧ k.2 = drawF σ L k.1) : (Nat × (Nat → Int)) → Prop) x.1) (fun x => ((fun k => 160 - k.1) : (Nat × (Nat → Int)) → Nat) x.1) (fun x => Xg.headT [pv p 0, tu, iv (σ.regs 4), Value.bool false, Value.slice xx1.fst L.length xx1.snd, tu, tu, tu, tu, tu, pv p 0, pv p 0, pv p 0, pv p 4, iv (σ.regs 4), pv p 0, Value.bool false, Value.bool false, tu, tu, tu, tu, Value.bool false, Value.bool false, tu, tu, tu, tu, tu, tu, Value.bool false, pv p 0, iv (σ.regs 4), Value.slice xx1.fst L.length xx1.snd, iv 0, tu, tu, tu, tu, tu, tu, tu, tu, tu, tu, tu, tu, tu, tu, tu, tu, tu, tu, tu, tu, tu, tu, tu, tu, tu, tu, tu, tu, tu, tu, tu, tu, tu, tu, tu, tu, tu, tu, tu, tu, tu, tu, tu, tu, tu, tu, tu, tu, tu, tu, tu, tu, tu, tu, tu, tu, tu, tu, tu, tu, tu, tu, tu, tu, tu, tu, tu, tu, tu, tu, tu, tu, tu, tu, tu, tu, tu, tu, tu, tu, tu, tu, tu, tu, tu, tu, tu, tu, tu, tu, tu, tu, tu, tu, tu, tu, tu, tu, tu, tu, tu, tu, tu] [5, 6, 7, 8, 9, 35, 36, 37, 38, 39, 40, 41, 42, 43, 44, 45, 46, 47, 48, 49, 50, 51, 52, 53, 54, 55, 56, 57, 58, 59, 60, 61, 62, 63, 64, 65, 66, 67, 68, 69, 70, 71, 72, 73, 74, 75, 76, 77, 78, 79, 80, 81, 82, 83, 84, 85, 86, 87, 88, 89, 90, 91, 92, 93, 94, 95, 96, 97, 98, 99, 100, 101, 102, 103, 104, 105, 106, 107, 108, 109, 110, 111, 112, 113, 114, 115, 116, 117, 118, 119, 120, 121, 122, 123, 124, 125, 126, 127, 128, 129] (((fun k => [(34, .int .i64 (k.1 : Nat))]) : (Nat × (Nat → Int)) → List (Nat × Go.Value)) x.1) x.2) (fun x => ((fun k => [recsO 105 4 sprC xx1.1 xx1.2 L, PpR p { σ with now := k.2 }]) : (Nat × (Nat → Int)) → List Go.Sl.HP) x.1) (((0, σ.now)), fun j => ([pv p 0, tu, iv (σ.regs 4), Value.bool false, Value.slice xx1.fst L.length xx1.snd, tu, tu, tu, tu, tu, pv p 0, pv p 0, pv p 0, pv p 4, iv (σ.regs 4), pv p 0, Value.bool false, Value.bool false, tu, tu, tu, tu, Value.bool false, Value.bool false, tu, tu, tu, tu, tu, tu, Value.bool false, pv p 0, iv (σ.regs 4), Value.slice xx1.fst L.length xx1.snd, iv 0, tu, tu, tu, tu, tu, tu, tu, tu, tu, tu, tu, tu, tu, tu, tu, tu, tu, tu, tu, tu, tu, tu, tu, tu, tu, tu, tu, tu, tu, tu, tu, tu, tu, tu, tu, tu, tu, tu, tu, tu, tu, tu, tu, tu, tu, tu, tu, tu, tu, tu, tu, tu, tu, tu, tu, tu, tu, tu, tu, tu, tu, tu, tu, tu, tu, tu, tu, tu, tu, tu, tu, tu, tu, tu, tu, tu, tu, tu, tu, tu, tu, tu, tu, tu, tu, tu, tu, tu, tu, tu, tu, tu, tu, tu, tu, tu, tu, tu, tu, tu, tu, tu, tu] : List Value).getD j undef) (by kernel_rfl) (by kernel_rfl) ?_ ?_)
  · exact ⟨Nat.zero_le _, (drawF_0 σ L).symm⟩
  rintro ⟨⟨k, f⟩, J⟩ ⟨hk, hf⟩ ih
  dsimp only at hk hf
  (focus
    refine Xg.At.same (T' := [pv p 0, tu, iv (σ.regs 4), Value.bool false, Value.slice xx1.fst L.length xx1.snd, J 5, J 6, J 7, J 8, J 9, pv p 0, pv p 0, pv p 0, pv p 4, iv (σ.regs 4), pv p 0, Value.bool false, Value.bool false, tu, tu, tu, tu, Value.bool false, Value.bool false, tu, tu, tu, tu, tu, tu, Value.bool false, pv p 0, iv (σ.regs 4), Value.slice xx1.fst L.length xx1.snd, iv (↑k : Int), J 35, J 36, J 37, J 38, J 39, J 40, J 41, J 42, J 43, J 44, J 45, J 46, J 47, J 48, J 49, J 50, J 51, J 52, J 53, J 54, J 55, J 56, J 57, J 58, J 59, J 60, J 61, J 62, J 63, J 64, J 65, J 66, J 67, J 68, J 69, J 70, J 71, J 72, J 73, J 74, J 75, J 76, J 77, J 78, J 79, J 80, J 81, J 82, J 83, J 84, J 85, J 86, J 87, J 88, J 89, J 90, J 91, J 92, J 93, J 94, J 95, J 96, J 97, J 98, J 99, J 100, J 101, J 102, J 103, J 104, J 105, J 106, J 107, J 108, J 109, J 110, J 111, J 112, J 113, J 114, J 115, J 116, J 117, J 118, J 119, J 120, J 121, J 122, J 123, J 124, J 125, J 126, J 127, J 128, J 129, tu, tu, tu, tu, tu, tu, tu, tu]) (L' := [recsO (105 : Nat) (4 : Nat) sprC xx1.fst xx1.snd L, PpR p (Pp.mk σ.regs σ.vram σ.oam σ.clock σ.seen σ.rows ((k, f), J).fst.snd σ.last)]) (by kernel_rfl) rfl ?_)
  by_cases hlt : k < 160
  · have hfb := drawF_bd hσ L k
    have hsucc := drawF_succ σ L k h4.1
    rw [← hf] at hfb hsucc
    have hfin : ∀ c, c = pixI σ L k → upd f (160 * σ.regs 4 + (k : Int)).toNat c = drawF σ L (k + 1) := fun c e => by
      rw [hsucc, e, show (160 * σ.regs 4 + (k : Int)).toNat = 160 * (σ.regs 4).toNat + k from by omega]
    have hpix : ∀ (n c : Int) (o : Spr × Int), n = groundI σ k → o = overI σ (σ.regs 4) k L → c = mixI σ n o → c = pixI σ L k := fun n c o e1 e2 e3 => by rw [e3, e1, e2]; rfl
    have hb1 := band_255 (σ.regs 4 + σ.regs 2)
    have hb2 := band_255 ((k : Int) + σ.regs 3)
    have hov := over_n p σ f hσ hfb xx1.1 xx1.2 L hL10 (σ.regs 4) k h4 (by omega) hLk
    have hti := fun high row col => tile_n p σ f hσ hfb high row col
    have hco := fun r n => colour_n p σ f hσ hfb r n
    (focus
      refine Xg.at_seq ?_
      refine Xg.at_region ?_
      refine Xg.ops_op (by kernel_rfl) (Xg.opx_pure (.bool (decide ((((↑k : Int)) : Int) < ((160 : Int))))) rfl (fun _ => by kernel_rfl) ?_)
      refine Xg.ops_nil ?_
      refine Xg.at_seq ?_
      refine Xg.at_true (t := decide (((↑k : Int) < (160 : Int)))) (by kernel_rfl) (decide_eq_true (by omega)) ?_
      refine Xg.at_skip ?_
      refine Xg.at_seq ?_
      refine Xg.at_block ?_
      refine Xg.at_seq ?_
      refine Xg.at_region ?_
      refine Xg.ops_op (by kernel_rfl) (Xg.opx_pure ((iv (↑k : Int))) rfl (fun _ => by kernel_rfl) ?_)
      refine Xg.ops_op (by kernel_rfl) (Xg.opx_pure ((iv (↑k : Int))) rfl (fun _ => by kernel_rfl) ?_)
      refine Xg.ops_nil ?_
      refine Xg.at_seq ?_
      refine Xg.at_region ?_
      refine Xg.ops_op (by kernel_rfl) (Xg.opx_pure ((iv 0)) rfl (fun _ => by kernel_rfl) ?_)
      refine Xg.ops_nil ?_
      refine Xg.at_seq ?_
      refine Xg.at_block ?_
      refine Xg.at_seq ?_
      refine Xg.at_region ?_
      refine Xg.ops_op (by kernel_rfl) (Xg.opx_pure ((pv p 0)) rfl (fun _ => by kernel_rfl) ?_)
      refine Xg.ops_op (by kernel_rfl) (Xg.opx_call1' [1] [PpR p (Pp.mk σ.regs σ.vram σ.oam σ.clock σ.seen σ.rows f σ.last), recsO (105 : Nat) (4 : Nat) sprC xx1.fst xx1.snd L] (fun _ => by kernel_rfl) (@h0c (f)) (by kernel_rfl) (by kernel_rfl) (by kernel_rfl) ?_)
      refine Xg.ops_op (by kernel_rfl) (Xg.opx_pure (.bool true) rfl (fun _ => by kernel_rfl) ?_)
      refine Xg.ops_op (by kernel_rfl) (Xg.opx_pure ((Value.bool true)) rfl (fun _ => by kernel_rfl) ?_)
      refine Xg.ops_nil ?_
      refine Xg.at_true (t := true) (by kernel_rfl) rfl ?_
      refine Xg.at_skip ?_
      refine Xg.at_inBlock ?_
      refine Xg.at_seq ?_
      refine Xg.at_region ?_
      refine Xg.ops_op (by kernel_rfl) (Xg.opx_pure ((pv p 0)) rfl (fun _ => by kernel_rfl) ?_)
      refine Xg.ops_op (by kernel_rfl) (Xg.opx_pure ((iv 0)) rfl (fun _ => by kernel_rfl) ?_)
      refine Xg.ops_op (by kernel_rfl) (Xg.opx_callE' [0] (fun xx2 => [PpR p (Pp.mk σ.regs σ.vram σ.oam σ.clock σ.seen σ.rows f σ.last), recsO (105 : Nat) (4 : Nat) sprC xx1.fst xx1.snd L]) (fun _ => by kernel_rfl) (@hco (((7 : Int))) (((0 : Int))) (by omega) (by omega)) (by kernel_rfl) (by kernel_rfl) (by kernel_rfl) fun xx2 xh2 => ?_)
      try dsimp only at xh2
      obtain ⟨xh2_0, xh2_1, xh2_2⟩ := xh2
      refine Xg.ops_op (by kernel_rfl) (Xg.opx_pure ((uv xx2)) rfl (fun _ => by kernel_rfl) ?_)
      refine Xg.ops_nil ?_
      refine Xg.at_seq ?_
      refine Xg.at_seq ?_
      refine Xg.at_region ?_
      refine Xg.ops_op (by kernel_rfl) (Xg.opx_pure ((pv p 0)) rfl (fun _ => by kernel_rfl) ?_)
      refine Xg.ops_op (by kernel_rfl) (Xg.opx_pure ((Value.slice xx1.fst L.length xx1.snd)) rfl (fun _ => by kernel_rfl) ?_)
      refine Xg.ops_op (by kernel_rfl) (Xg.opx_pure ((iv (σ.regs 4))) rfl (fun _ => by kernel_rfl) ?_)
      refine Xg.ops_op (by kernel_rfl) (Xg.opx_pure ((iv (↑k : Int))) rfl (fun _ => by kernel_rfl) ?_)
      refine Xg.ops_op (by kernel_rfl) (Xg.opx_callE' [1, 0] (fun xx3 => [recsO (105 : Nat) (4 : Nat) sprC xx1.fst xx1.snd L, PpR p (Pp.mk σ.regs σ.vram σ.oam σ.clock σ.seen σ.rows f σ.last)]) (fun _ => by kernel_rfl) (@hov ) (by kernel_rfl) (by kernel_rfl) (by kernel_rfl) fun xx3 xh3 => ?_)
      try dsimp only at xh3
      obtain ⟨xh3_0, xh3_1, xh3_2, xh3_3, xh3_4⟩ := xh3
      refine Xg.ops_op (by kernel_rfl) (Xg.opx_pure ((Value.tuple #[Value.agg #[iv xx3.fst.row, iv xx3.fst.column, iv xx3.fst.tile, iv xx3.fst.flags], iv xx3.snd])) rfl (fun _ => by kernel_rfl) ?_)
      refine Xg.ops_op (by kernel_rfl) (Xg.opx_pure ((Value.agg #[iv xx3.fst.row, iv xx3.fst.column, iv xx3.fst.tile, iv xx3.fst.flags])) rfl (fun _ => by kernel_rfl) ?_)
      refine Xg.ops_op (by kernel_rfl) (Xg.opx_pure ((iv xx3.snd)) rfl (fun _ => by kernel_rfl) ?_)
      refine Xg.ops_op (by kernel_rfl) (Xg.opx_new 4 [iv 0, iv 0, iv 0, iv 0] (by kernel_rfl) (by kernel_rfl) fun xb1 => ?_)
      refine Xg.ops_op (by kernel_rfl) (Xg.opx_storen 4 (off := 0) 0 [iv xx3.fst.row, iv xx3.fst.column, iv xx3.fst.tile, iv xx3.fst.flags] (by kernel_rfl) rfl (by kernel_rfl) (by kernel_rfl) rfl (by kernel_rfl) (Nat.le_of_ble_eq_true (by kernel_rfl)) ?_)
      refine Xg.ops_op (by kernel_rfl) (Xg.opx_pure ((iv xx3.snd)) rfl (fun _ => by kernel_rfl) ?_)
      refine Xg.ops_nil ?_
      refine Xg.at_seq ?_
      refine Xg.at_region ?_
      refine Xg.ops_op (by kernel_rfl) (Xg.opx_pure ((iv xx3.snd)) rfl (fun _ => by kernel_rfl) ?_)
      refine Xg.ops_op (by kernel_rfl) (Xg.opx_pure (.bool (decide ((xx3.snd : Int) > ((0 : Int))))) rfl (fun _ => by kernel_rfl) ?_)
      refine Xg.ops_op (by kernel_rfl) (Xg.opx_pure ((Value.bool (decide (xx3.snd > (0 : Int))))) rfl (fun _ => by kernel_rfl) ?_)
      refine Xg.ops_flag (j := 102) (c := (decide (xx3.snd > (0 : Int)))) (by kernel_rfl) (fun xh4 => ?_) (fun xh4 => ?_)
      replace xh4 : (xx3.snd > (0 : Int)) := of_decide_eq_true xh4
      rotate_left
      replace xh4 : ¬ ((xx3.snd > (0 : Int))) := of_decide_eq_false xh4
      rotate_right
      refine Xg.ops_op (by kernel_rfl) (Xg.opx_pure ((pv xb1 3)) rfl (fun _ => by kernel_rfl) ?_)
      refine Xg.ops_op (by kernel_rfl) (Xg.opx_load (b := xb1) (off := ((3 : Nat))) 0 (iv xx3.fst.flags) rfl (by kernel_rfl) (by kernel_rfl) (by kernel_rfl) ?_)
      refine Xg.ops_op (by kernel_rfl) (Xg.opx_pure (.int .i64 (Xg.band .i64 (xx3.fst.flags) (((128 : Int))))) rfl (fun _ => by kernel_rfl) ?_)
      refine Xg.ops_op (by kernel_rfl) (Xg.opx_pure (.bool (decide (((band IntKind.i64 xx3.fst.flags (128 : Int)) : Int) = ((0 : Int))))) rfl (fun _ => by kernel_rfl) ?_)
      refine Xg.ops_op (by kernel_rfl) (Xg.opx_pure ((Value.bool (decide (band IntKind.i64 xx3.fst.flags (128 : Int) = (0 : Int))))) rfl (fun _ => by kernel_rfl) ?_)
      refine Xg.ops_flag (j := 107) (c := (decide (band IntKind.i64 xx3.fst.flags (128 : Int) = (0 : Int)))) (by kernel_rfl) (fun xh5 => ?_) (fun xh5 => ?_)
      replace xh5 : (band IntKind.i64 xx3.fst.flags (128 : Int) = (0 : Int)) := of_decide_eq_true xh5
      rotate_left
      replace xh5 : ¬ ((band IntKind.i64 xx3.fst.flags (128 : Int) = (0 : Int))) := of_decide_eq_false xh5
      rotate_right
      refine Xg.ops_skip (by kernel_rfl) ?_
      refine Xg.ops_skip (by kernel_rfl) ?_
      refine Xg.ops_op (by kernel_rfl) (Xg.opx_pure ((Value.bool true)) rfl (fun _ => by kernel_rfl) ?_)
      refine Xg.ops_op (by kernel_rfl) (Xg.opx_pure ((Value.bool true)) rfl (fun _ => by kernel_rfl) ?_)
      refine Xg.ops_nil ?_
      refine Xg.at_true (t := true) (by kernel_rfl) rfl ?_
      refine Xg.at_region ?_
      refine Xg.ops_op (by kernel_rfl) (Xg.opx_pure ((pv p 0)) rfl (fun _ => by kernel_rfl) ?_)
      refine Xg.ops_op (by kernel_rfl) (Xg.opx_pure ((pv xb1 3)) rfl (fun _ => by kernel_rfl) ?_)
      refine Xg.ops_op (by kernel_rfl) (Xg.opx_load (b := xb1) (off := ((3 : Nat))) 0 (iv xx3.fst.flags) rfl (by kernel_rfl) (by kernel_rfl) (by kernel_rfl) ?_)
      refine Xg.ops_op (by kernel_rfl) (Xg.opx_int .i64 (Int.fdiv (xx3.fst.flags) 16) rfl (fun _ => by kernel_rfl) (Xg.shr_div _ 16 (by decide)) ?_)
      refine Xg.ops_op (by kernel_rfl) (Xg.opx_pure (.int .i64 (Xg.band .i64 ((xx3.fst.flags / (16 : Int))) (((1 : Int))))) rfl (fun _ => by kernel_rfl) ?_)
      refine Xg.ops_op (by kernel_rfl) (Xg.opx_int .i64 (IntKind.wrap .i64 (((8 : Int) + band IntKind.i64 (xx3.fst.flags / (16 : Int)) (1 : Int)))) rfl (fun _ => by kernel_rfl) (Xg.wrap_i64_in (by omega)) ?_)
      refine Xg.ops_op (by kernel_rfl) (Xg.opx_pure ((iv xx3.snd)) rfl (fun _ => by kernel_rfl) ?_)
      refine Xg.ops_op (by kernel_rfl) (Xg.opx_callE' [2] (fun xx4 => [PpR p (Pp.mk σ.regs σ.vram σ.oam σ.clock σ.seen σ.rows f σ.last), row xb1 (105 : Nat) [iv xx3.fst.row, iv xx3.fst.column, iv xx3.fst.tile, iv xx3.fst.flags], recsO (105 : Nat) (4 : Nat) sprC xx1.fst xx1.snd L]) (fun _ => by kernel_rfl) (@hco (((8 : Int) + band IntKind.i64 (xx3.fst.flags / (16 : Int)) (1 : Int))) (xx3.snd) (by omega) (by omega)) (by kernel_rfl) (by kernel_rfl) (by kernel_rfl) fun xx4 xh6 => ?_)
      try dsimp only at xh6
      obtain ⟨xh6_0, xh6_1, xh6_2⟩ := xh6
      refine Xg.ops_op (by kernel_rfl) (Xg.opx_pure ((uv xx4)) rfl (fun _ => by kernel_rfl) ?_)
      refine Xg.ops_nil ?_
      refine Xg.at_region ?_
      refine Xg.ops_op (by kernel_rfl) (Xg.opx_pure ((pv p 0)) rfl (fun _ => by kernel_rfl) ?_)
      refine Xg.ops_op (by kernel_rfl) (Xg.opx_pure ((iv (σ.regs 4))) rfl (fun _ => by kernel_rfl) ?_)
      refine Xg.ops_op (by kernel_rfl) (Xg.opx_int .i64 (IntKind.wrap .i64 (((160 : Int) * σ.regs 4))) rfl (fun _ => by kernel_rfl) (Xg.wrap_i64_in (by omega)) ?_)
      refine Xg.ops_op (by kernel_rfl) (Xg.opx_pure ((iv (↑k : Int))) rfl (fun _ => by kernel_rfl) ?_)
      refine Xg.ops_op (by kernel_rfl) (Xg.opx_int .i64 (IntKind.wrap .i64 (((160 : Int) * σ.regs 4 + (↑k : Int)))) rfl (fun _ => by kernel_rfl) (Xg.wrap_i64_in (by omega)) ?_)
      refine Xg.ops_op (by kernel_rfl) (Xg.opx_pure ((uv xx4)) rfl (fun _ => by kernel_rfl) ?_)
      refine Xg.ops_op (by kernel_rfl) (Xg.opx_pure ((pv p 0)) rfl (fun _ => by kernel_rfl) ?_)
      refine Xg.ops_op (by kernel_rfl) (Xg.opx_pure ((pv p 8367)) rfl (fun _ => by kernel_rfl) ?_)
      refine Xg.ops_op (by kernel_rfl) (Xg.opx_run (.pointer (some (Addr.mk p ((8367 : Nat) + ((160 : Int) * σ.regs 4 + (↑k : Int)).toNat) none))) rfl (Xg.run_ix_array' (elem := 5) (len := 23040) (b := p) (off := ((8367 : Nat))) (kd := .i64) (e := ((160 : Int) * σ.regs 4 + (↑k : Int))) 1 (((160 : Int) * σ.regs 4 + (↑k : Int)).toNat) ((8367 : Nat) + ((160 : Int) * σ.regs 4 + (↑k : Int)).toNat) (by kernel_rfl) (by kernel_rfl) (by kernel_rfl) (by kernel_rfl) (by omega) (by omega) (by omega)) ?_)
      refine Xg.ops_op (by kernel_rfl) (Xg.opx_store_c (off := ((8367 : Nat) + ((160 : Int) * σ.regs 4 + (↑k : Int)).toNat)) (cs' := (ppc (Pp.mk σ.regs σ.vram σ.oam σ.clock σ.seen σ.rows (upd f ((160 : Int) * σ.regs 4 + (↑k : Int)).toNat xx4) σ.last))) 0 (uv xx4) (by kernel_rfl) rfl (by kernel_rfl) (by kernel_rfl) (by kernel_rfl) (@Go.Proofs.Ytkfclamiendamaa.s_now ((Pp.mk σ.regs σ.vram σ.oam σ.clock σ.seen σ.rows f σ.last)) ((((160 : Int) * σ.regs 4 + (↑k : Int)).toNat)) (xx4) (by omega)) ?_)
      refine Xg.ops_nil ?_
      refine Xg.at_inBlock ?_
      refine Xg.at_region ?_
      refine Xg.ops_op (by kernel_rfl) (Xg.opx_int .i64 (IntKind.wrap .i64 (((↑k : Int) + (1 : Int)))) rfl (fun _ => by kernel_rfl) (Xg.wrap_i64_in (by omega)) ?_)
      refine Xg.ops_op (by kernel_rfl) (Xg.opx_pure ((iv ((↑k : Int) + (1 : Int)))) rfl (fun _ => by kernel_rfl) ?_)
      refine Xg.ops_nil ?_
      refine Xg.at_inLoop ?_
      rotate_left
      refine Xg.ops_op (by kernel_rfl) (Xg.opx_pure ((iv 0)) rfl (fun _ => by kernel_rfl) ?_)
      refine Xg.ops_op (by kernel_rfl) (Xg.opx_pure ((Value.bool true)) rfl (fun _ => by kernel_rfl) ?_)
      refine Xg.ops_op (by kernel_rfl) (Xg.opx_pure ((Value.bool true)) rfl (fun _ => by kernel_rfl) ?_)
      refine Xg.ops_op (by kernel_rfl) (Xg.opx_pure ((Value.bool true)) rfl (fun _ => by kernel_rfl) ?_)
      refine Xg.ops_nil ?_
      refine Xg.at_true (t := true) (by kernel_rfl) rfl ?_
      refine Xg.at_region ?_
      refine Xg.ops_op (by kernel_rfl) (Xg.opx_pure ((pv p 0)) rfl (fun _ => by kernel_rfl) ?_)
      refine Xg.ops_op (by kernel_rfl) (Xg.opx_pure ((pv xb1 3)) rfl (fun _ => by kernel_rfl) ?_)
      refine Xg.ops_op (by kernel_rfl) (Xg.opx_load (b := xb1) (off := ((3 : Nat))) 0 (iv xx3.fst.flags) rfl (by kernel_rfl) (by kernel_rfl) (by kernel_rfl) ?_)
      refine Xg.ops_op (by kernel_rfl) (Xg.opx_int .i64 (Int.fdiv (xx3.fst.flags) 16) rfl (fun _ => by kernel_rfl) (Xg.shr_div _ 16 (by decide)) ?_)
      refine Xg.ops_op (by kernel_rfl) (Xg.opx_pure (.int .i64 (Xg.band .i64 ((xx3.fst.flags / (16 : Int))) (((1 : Int))))) rfl (fun _ => by kernel_rfl) ?_)
      refine Xg.ops_op (by kernel_rfl) (Xg.opx_int .i64 (IntKind.wrap .i64 (((8 : Int) + band IntKind.i64 (xx3.fst.flags / (16 : Int)) (1 : Int)))) rfl (fun _ => by kernel_rfl) (Xg.wrap_i64_in (by omega)) ?_)
      refine Xg.ops_op (by kernel_rfl) (Xg.opx_pure ((iv xx3.snd)) rfl (fun _ => by kernel_rfl) ?_)
      refine Xg.ops_op (by kernel_rfl) (Xg.opx_callE' [2] (fun xx4 => [PpR p (Pp.mk σ.regs σ.vram σ.oam σ.clock σ.seen σ.rows f σ.last), row xb1 (105 : Nat) [iv xx3.fst.row, iv xx3.fst.column, iv xx3.fst.tile, iv xx3.fst.flags], recsO (105 : Nat) (4 : Nat) sprC xx1.fst xx1.snd L]) (fun _ => by kernel_rfl) (@hco (((8 : Int) + band IntKind.i64 (xx3.fst.flags / (16 : Int)) (1 : Int))) (xx3.snd) (by omega) (by omega)) (by kernel_rfl) (by kernel_rfl) (by kernel_rfl) fun xx4 xh6 => ?_)
      try dsimp only at xh6
      obtain ⟨xh6_0, xh6_1, xh6_2⟩ := xh6
      refine Xg.ops_op (by kernel_rfl) (Xg.opx_pure ((uv xx4)) rfl (fun _ => by kernel_rfl) ?_)
      refine Xg.ops_nil ?_
      refine Xg.at_region ?_
      refine Xg.ops_op (by kernel_rfl) (Xg.opx_pure ((pv p 0)) rfl (fun _ => by kernel_rfl) ?_)
      refine Xg.ops_op (by kernel_rfl) (Xg.opx_pure ((iv (σ.regs 4))) rfl (fun _ => by kernel_rfl) ?_)
      refine Xg.ops_op (by kernel_rfl) (Xg.opx_int .i64 (IntKind.wrap .i64 (((160 : Int) * σ.regs 4))) rfl (fun _ => by kernel_rfl) (Xg.wrap_i64_in (by omega)) ?_)
      refine Xg.ops_op (by kernel_rfl) (Xg.opx_pure ((iv (↑k : Int))) rfl (fun _ => by kernel_rfl) ?_)
      refine Xg.ops_op (by kernel_rfl) (Xg.opx_int .i64 (IntKind.wrap .i64 (((160 : Int) * σ.regs 4 + (↑k : Int)))) rfl (fun _ => by kernel_rfl) (Xg.wrap_i64_in (by omega)) ?_)
      refine Xg.ops_op (by kernel_rfl) (Xg.opx_pure ((uv xx4)) rfl (fun _ => by kernel_rfl) ?_)
      refine Xg.ops_op (by kernel_rfl) (Xg.opx_pure ((pv p 0)) rfl (fun _ => by kernel_rfl) ?_)
      refine Xg.ops_op (by kernel_rfl) (Xg.opx_pure ((pv p 8367)) rfl (fun _ => by kernel_rfl) ?_)
      refine Xg.ops_op (by kernel_rfl) (Xg.opx_run (.pointer (some (Addr.mk p ((8367 : Nat) + ((160 : Int) * σ.regs 4 + (↑k : Int)).toNat) none))) rfl (Xg.run_ix_array' (elem := 5) (len := 23040) (b := p) (off := ((8367 : Nat))) (kd := .i64) (e := ((160 : Int) * σ.regs 4 + (↑k : Int))) 1 (((160 : Int) * σ.regs 4 + (↑k : Int)).toNat) ((8367 : Nat) + ((160 : Int) * σ.regs 4 + (↑k : Int)).toNat) (by kernel_rfl) (by kernel_rfl) (by kernel_rfl) (by kernel_rfl) (by omega) (by omega) (by omega)) ?_)
      refine Xg.ops_op (by kernel_rfl) (Xg.opx_store_c (off := ((8367 : Nat) + ((160 : Int) * σ.regs 4 + (↑k : Int)).toNat)) (cs' := (ppc (Pp.mk σ.regs σ.vram σ.oam σ.clock σ.seen σ.rows (upd f ((160 : Int) * σ.regs 4 + (↑k : Int)).toNat xx4) σ.last))) 0 (uv xx4) (by kernel_rfl) rfl (by kernel_rfl) (by kernel_rfl) (by kernel_rfl) (@Go.Proofs.Ytkfclamiendamaa.s_now ((Pp.mk σ.regs σ.vram σ.oam σ.clock σ.seen σ.rows f σ.last)) ((((160 : Int) * σ.regs 4 + (↑k : Int)).toNat)) (xx4) (by omega)) ?_)
      refine Xg.ops_nil ?_
      refine Xg.at_inBlock ?_
      refine Xg.at_region ?_
      refine Xg.ops_op (by kernel_rfl) (Xg.opx_int .i64 (IntKind.wrap .i64 (((↑k : Int) + (1 : Int)))) rfl (fun _ => by kernel_rfl) (Xg.wrap_i64_in (by omega)) ?_)
      refine Xg.ops_op (by kernel_rfl) (Xg.opx_pure ((iv ((↑k : Int) + (1 : Int)))) rfl (fun _ => by kernel_rfl) ?_)
      refine Xg.ops_nil ?_
      refine Xg.at_inLoop ?_
      rotate_left
      refine Xg.ops_skip (by kernel_rfl) ?_
      refine Xg.ops_skip (by kernel_rfl) ?_
      refine Xg.ops_skip (by kernel_rfl) ?_
      refine Xg.ops_skip (by kernel_rfl) ?_
      refine Xg.ops_skip (by kernel_rfl) ?_
      refine Xg.ops_skip (by kernel_rfl) ?_
      refine Xg.ops_skip (by kernel_rfl) ?_
      refine Xg.ops_skip (by kernel_rfl) ?_
      refine Xg.ops_op (by kernel_rfl) (Xg.opx_pure ((Value.bool false)) rfl (fun _ => by kernel_rfl) ?_)
      refine Xg.ops_nil ?_
      refine Xg.at_false (t := false) (by kernel_rfl) rfl ?_
      refine Xg.at_skip ?_
      refine Xg.at_region ?_
      refine Xg.ops_op (by kernel_rfl) (Xg.opx_pure ((pv p 0)) rfl (fun _ => by kernel_rfl) ?_)
      refine Xg.ops_op (by kernel_rfl) (Xg.opx_pure ((iv (σ.regs 4))) rfl (fun _ => by kernel_rfl) ?_)
      refine Xg.ops_op (by kernel_rfl) (Xg.opx_int .i64 (IntKind.wrap .i64 (((160 : Int) * σ.regs 4))) rfl (fun _ => by kernel_rfl) (Xg.wrap_i64_in (by omega)) ?_)
      refine Xg.ops_op (by kernel_rfl) (Xg.opx_pure ((iv (↑k : Int))) rfl (fun _ => by kernel_rfl) ?_)
      refine Xg.ops_op (by kernel_rfl) (Xg.opx_int .i64 (IntKind.wrap .i64 (((160 : Int) * σ.regs 4 + (↑k : Int)))) rfl (fun _ => by kernel_rfl) (Xg.wrap_i64_in (by omega)) ?_)
      refine Xg.ops_op (by kernel_rfl) (Xg.opx_pure ((uv xx2)) rfl (fun _ => by kernel_rfl) ?_)
      refine Xg.ops_op (by kernel_rfl) (Xg.opx_pure ((pv p 0)) rfl (fun _ => by kernel_rfl) ?_)
      refine Xg.ops_op (by kernel_rfl) (Xg.opx_pure ((pv p 8367)) rfl (fun _ => by kernel_rfl) ?_)
      refine Xg.ops_op (by kernel_rfl) (Xg.opx_run (.pointer (some (Addr.mk p ((8367 : Nat) + ((160 : Int) * σ.regs 4 + (↑k : Int)).toNat) none))) rfl (Xg.run_ix_array' (elem := 5) (len := 23040) (b := p) (off := ((8367 : Nat))) (kd := .i64) (e := ((160 : Int) * σ.regs 4 + (↑k : Int))) 1 (((160 : Int) * σ.regs 4 + (↑k : Int)).toNat) ((8367 : Nat) + ((160 : Int) * σ.regs 4 + (↑k : Int)).toNat) (by kernel_rfl) (by kernel_rfl) (by kernel_rfl) (by kernel_rfl) (by omega) (by omega) (by omega)) ?_)
      refine Xg.ops_op (by kernel_rfl) (Xg.opx_store_c (off := ((8367 : Nat) + ((160 : Int) * σ.regs 4 + (↑k : Int)).toNat)) (cs' := (ppc (Pp.mk σ.regs σ.vram σ.oam σ.clock σ.seen σ.rows (upd f ((160 : Int) * σ.regs 4 + (↑k : Int)).toNat xx2) σ.last))) 2 (uv xx2) (by kernel_rfl) rfl (by kernel_rfl) (by kernel_rfl) (by kernel_rfl) (@Go.Proofs.Ytkfclamiendamaa.s_now ((Pp.mk σ.regs σ.vram σ.oam σ.clock σ.seen σ.rows f σ.last)) ((((160 : Int) * σ.regs 4 + (↑k : Int)).toNat)) (xx2) (by omega)) ?_)
      refine Xg.ops_nil ?_
      refine Xg.at_inBlock ?_
      refine Xg.at_region ?_
      refine Xg.ops_op (by kernel_rfl) (Xg.opx_int .i64 (IntKind.wrap .i64 (((↑k : Int) + (1 : Int)))) rfl (fun _ => by kernel_rfl) (Xg.wrap_i64_in (by omega)) ?_)
      refine Xg.ops_op (by kernel_rfl) (Xg.opx_pure ((iv ((↑k : Int) + (1 : Int)))) rfl (fun _ => by kernel_rfl) ?_)
      refine Xg.ops_nil ?_
      refine Xg.at_inLoop ?_)
    · (focus
        refine Xg.at_keep [1, 2] (by kernel_rfl) ?_
        refine Xs.same ?_ (fun J9 => ih (((k + 1, upd f (160 * σ.regs 4 + (k : Int)).toNat xx2)), J9) ?_ ?_) (by kernel_rfl))
      · rfl
      · exact ⟨by dsimp only; omega, hfin _ (hpix 0 _ xx3 (by unfold groundI; rw [if_neg (by simp [b0])]) (by assumption) (by rw [mixI, if_neg (fun h => by omega)]; exact (show xx2 = palI σ 7 0 from by assumption)))⟩
      · dsimp only; omega
    · (focus
        refine Xg.at_keep [2, 0] (by kernel_rfl) ?_
        refine Xs.same ?_ (fun J9 => ih (((k + 1, upd f (160 * σ.regs 4 + (k : Int)).toNat xx4)), J9) ?_ ?_) (by kernel_rfl))
      · rfl
      · exact ⟨by dsimp only; omega, hfin _ (hpix 0 _ xx3 (by unfold groundI; rw [if_neg (by simp [b0])]) (by assumption) (by rw [mixI, if_pos (by omega), show xx4 = palI σ (8 + band .i64 (xx3.1.flags / 16) 1) xx3.2 from by assumption, show band .i64 (xx3.1.flags / 16) 1 = xx3.1.flags / 16 % 2 from by assumption]))⟩
      · dsimp only; omega
    · (focus
        refine Xg.at_keep [2, 0] (by kernel_rfl) ?_
        refine Xs.same ?_ (fun J9 => ih (((k + 1, upd f (160 * σ.regs 4 + (k : Int)).toNat xx4)), J9) ?_ ?_) (by kernel_rfl))
      · rfl
      · exact ⟨by dsimp only; omega, hfin _ (hpix 0 _ xx3 (by unfold groundI; rw [if_neg (by simp [b0])]) (by assumption) (by rw [mixI, if_pos (by omega), show xx4 = palI σ (8 + band .i64 (xx3.1.flags / 16) 1) xx3.2 from by assumption, show band .i64 (xx3.1.flags / 16) 1 = xx3.1.flags / 16 % 2 from by assumption]))⟩
      · dsimp only; omega
  · clear ih
    have hkn : k = 160 := by omega
    subst hkn
    subst hf
    (focus
      refine Xg.at_seq ?_
      refine Xg.at_region ?_
      refine Xg.ops_op (by kernel_rfl) (Xg.opx_pure ((Value.bool false)) rfl (fun _ => by kernel_rfl) ?_)
      refine Xg.ops_nil ?_
      refine Xg.at_seq ?_
      refine Xg.at_false (t := false) (by kernel_rfl) rfl ?_
      refine Xg.at_exit rfl ?_
      refine Xg.at_seq ?_
      refine Xg.at_region ?_
      refine Xg.ops_op (by kernel_rfl) (Xg.opx_pure ((Value.bool false)) rfl (fun _ => by kernel_rfl) ?_)
      refine Xg.ops_nil ?_
      refine Xg.at_false (t := false) (by kernel_rfl) rfl ?_
      refine Xg.at_skip ?_
      refine Xg.at_end_ps (v := (tu)) [1] [PpR p (Pp.mk σ.regs σ.vram σ.oam σ.clock σ.seen σ.rows (drawF σ L (160 : Nat)) σ.last)] Go.Proofs.Try.func59 (fun _ => by kernel_rfl) (by kernel_rfl) (by kernel_rfl) ?_
      exact ⟨by kernel_rfl, by kernel_rfl⟩)

set_option maxHeartbeats 0 in
theorem draw_b0 (p : Nat) (σ : Pp) (hσ : σ.Wf) (hly : σ.regs 4 < 144) (hrows : σ.rows ≤ 143) (b5 : hasB (σ.regs 0) 5 = true) (b9 : σ.seen = false) (b0 : hasB (σ.regs 0) 0 = false) : Does Try.prog 59 [pt p] [PpR p σ] (Ret (.tuple #[]) [PpR p (drawP σ)]) := by
  have h0 := hσ.regs 0
  have h2 := hσ.regs 2
  have h3 := hσ.regs 3
  have h4 := hσ.regs 4
  have h11 := hσ.regs 11
  have hr := hσ.rows
  have hw : winB σ = false := by unfold winB; simp [*]
  obtain ⟨L, hL⟩ : ∃ L, sprL σ (σ.regs 4) = L := ⟨_, rfl⟩
  have hLo := sprL_ok hσ (σ.regs 4)
  rw [hL] at hLo
  obtain ⟨hL10, hLk⟩ := hLo
  have hG : drawP σ = { σ with now := drawF σ L 160, rows := σ.rows } := by
    unfold drawP
    rw [hL, hw]
    rfl
  have hsp := sprites_e p σ hσ L hL
  have h5c : Does Try.prog 74 [pt p, .int .i64 5] [PpR p σ] (Ret (.bool true) [PpR p σ]) := by
    have := has_5 p σ h0
    rwa [b5] at this
  have h0c : ∀ f, Does Try.prog 74 [pt p, .int .i64 0] [PpR p { σ with now := f }] (Ret (.bool false) [PpR p { σ with now := f }]) := fun f => by
    have := has_0 p { σ with now := f } h0
    rwa [show hasB (({ σ with now := f } : Pp).regs 0) 0 = false from b0] at this
  have h3c : ∀ f, Does Try.prog 74 [pt p, .int .i64 3] [PpR p { σ with now := f }] (Ret (.bool (hasB (σ.regs 0) 3)) [PpR p { σ with now := f }]) := fun f => has_3 p { σ with now := f } h0
  have h6c : ∀ f, Does Try.prog 74 [pt p, .int .i64 6] [PpR p { σ with now := f }] (Ret (.bool (hasB (σ.regs 0) 6)) [PpR p { σ with now := f }]) := fun f => has_6 p { σ with now := f } h0
  rw [hG]
  (focus
    refine Xg.spec_of Go.Proofs.Try.func59 rfl Go.Proofs.Try.ntmps59 fun g F => ?_)
  (focus
    refine Xg.at_seq ?_
    refine Xg.at_region ?_
    refine Xg.ops_op (by kernel_rfl) (Xg.opx_pure ((pv p 0)) rfl (fun _ => by kernel_rfl) ?_)
    refine Xg.ops_op (by kernel_rfl) (Xg.opx_pure ((pv p 0)) rfl (fun _ => by kernel_rfl) ?_)
    refine Xg.ops_op (by kernel_rfl) (Xg.opx_pure ((pv p 0)) rfl (fun _ => by kernel_rfl) ?_)
    refine Xg.ops_op (by kernel_rfl) (Xg.opx_pure (pv p 4) rfl (fun _ => by kernel_rfl) ?_)
    refine Xg.ops_op (by kernel_rfl) (Xg.opx_load (b := p) (off := ((4 : Nat))) 0 (iv (σ.regs 4)) rfl (by kernel_rfl) (@Go.Proofs.Ytkfclamiendamaa.g_regs (σ) (((4 : Nat))) (by omega)) (by kernel_rfl) ?_)
    refine Xg.ops_op (by kernel_rfl) (Xg.opx_pure ((iv (σ.regs 4))) rfl (fun _ => by kernel_rfl) ?_)
    refine Xg.ops_nil ?_
    refine Xg.at_seq ?_
    refine Xg.at_region ?_
    refine Xg.ops_op (by kernel_rfl) (Xg.opx_pure ((pv p 0)) rfl (fun _ => by kernel_rfl) ?_)
    refine Xg.ops_op (by kernel_rfl) (Xg.opx_call1' [0] [PpR p σ] (fun _ => by kernel_rfl) (@h5c ) (by kernel_rfl) (by kernel_rfl) (by kernel_rfl) ?_)
    refine Xg.ops_op (by kernel_rfl) (Xg.opx_pure ((Value.bool true)) rfl (fun _ => by kernel_rfl) ?_)
    refine Xg.ops_op (by kernel_rfl) (Xg.opx_pure ((pv p 0)) rfl (fun _ => by kernel_rfl) ?_)
    refine Xg.ops_op (by kernel_rfl) (Xg.opx_pure ((pv p 0)) rfl (fun _ => by kernel_rfl) ?_)
    refine Xg.ops_op (by kernel_rfl) (Xg.opx_pure ((pv p 8365)) rfl (fun _ => by kernel_rfl) ?_)
    refine Xg.ops_op (by kernel_rfl) (Xg.opx_load (b := p) (off := ((8365 : Nat))) 0 (Value.bool σ.seen) rfl (by kernel_rfl) (@Go.Proofs.Ytkfclamiendamaa.g_seen (σ)) (by kernel_rfl) ?_)
    refine Xg.ops_flag (j := 21) (c := σ.seen) (by kernel_rfl) (fun xh1 => ?_) (fun xh1 => ?_)
    refine Xg.ops_op (by kernel_rfl) (Xg.opx_pure ((Value.bool true)) rfl (fun _ => by kernel_rfl) ?_)
    refine Xg.ops_op (by kernel_rfl) (Xg.opx_pure ((Value.bool true)) rfl (fun _ => by kernel_rfl) ?_)
    refine Xg.ops_op (by kernel_rfl) (Xg.opx_pure ((pv p 0)) rfl (fun _ => by kernel_rfl) ?_)
    refine Xg.ops_op (by kernel_rfl) (Xg.opx_pure ((pv p 0)) rfl (fun _ => by kernel_rfl) ?_)
    refine Xg.ops_op (by kernel_rfl) (Xg.opx_pure ((pv p 0)) rfl (fun _ => by kernel_rfl) ?_)
    refine Xg.ops_op (by kernel_rfl) (Xg.opx_pure (pv p 11) rfl (fun _ => by kernel_rfl) ?_)
    refine Xg.ops_op (by kernel_rfl) (Xg.opx_load (b := p) (off := ((11 : Nat))) 0 (iv (σ.regs 11)) rfl (by kernel_rfl) (@Go.Proofs.Ytkfclamiendamaa.g_regs (σ) (((11 : Nat))) (by omega)) (by kernel_rfl) ?_)
    refine Xg.ops_op (by kernel_rfl) (Xg.opx_pure (.bool (decide (((σ.regs 11) : Int) ≤ ((166 : Int))))) rfl (fun _ => by kernel_rfl) ?_)
    refine Xg.ops_flag (j := 29) (c := (decide (σ.regs 11 ≤ (166 : Int)))) (by kernel_rfl) (fun xh2 => ?_) (fun xh2 => ?_)
    replace xh2 : (σ.regs (11 : Nat) ≤ (166 : Int)) := of_decide_eq_true xh2
    rotate_left
    replace xh2 : ¬ ((σ.regs (11 : Nat) ≤ (166 : Int))) := of_decide_eq_false xh2
    rotate_right
    refine Xg.ops_op (by kernel_rfl) (Xg.opx_pure ((Value.bool true)) rfl (fun _ => by kernel_rfl) ?_)
    refine Xg.ops_op (by kernel_rfl) (Xg.opx_pure ((Value.bool true)) rfl (fun _ => by kernel_rfl) ?_)
    refine Xg.ops_nil ?_
    refine Xg.at_seq ?_
    refine Xg.at_region ?_
    refine Xg.ops_op (by kernel_rfl) (Xg.opx_pure ((pv p 0)) rfl (fun _ => by kernel_rfl) ?_)
    refine Xg.ops_op (by kernel_rfl) (Xg.opx_pure ((iv (σ.regs 4))) rfl (fun _ => by kernel_rfl) ?_)
    refine Xg.ops_op (by kernel_rfl) (Xg.opx_callE' [0] (fun xx1 => [recsO (105 : Nat) (4 : Nat) sprC xx1.fst xx1.snd L, PpR p σ]) (fun _ => by kernel_rfl) (@hsp ) (by kernel_rfl) (by kernel_rfl) (by kernel_rfl) fun xx1 xh3 => ?_)
    try dsimp only at xh3
    refine Xg.ops_op (by kernel_rfl) (Xg.opx_pure ((Value.slice xx1.fst L.length xx1.snd)) rfl (fun _ => by kernel_rfl) ?_)
    refine Xg.ops_nil ?_
    refine Xg.at_seq ?_
    refine Xg.at_seq ?_
    refine Xg.at_region ?_
    refine Xg.ops_op (by kernel_rfl) (Xg.opx_pure ((iv 0)) rfl (fun _ => by kernel_rfl) ?_)
    refine Xg.ops_nil ?_
    refine Xg.at_block ?_
    rotate_left
    refine Xg.ops_op (by kernel_rfl) (Xg.opx_pure ((Value.bool false)) rfl (fun _ => by kernel_rfl) ?_)
    refine Xg.ops_op (by kernel_rfl) (Xg.opx_pure ((Value.bool false)) rfl (fun _ => by kernel_rfl) ?_)
    refine Xg.ops_nil ?_
    refine Xg.at_seq ?_
    refine Xg.at_region ?_
    refine Xg.ops_op (by kernel_rfl) (Xg.opx_pure ((pv p 0)) rfl (fun _ => by kernel_rfl) ?_)
    refine Xg.ops_op (by kernel_rfl) (Xg.opx_pure ((iv (σ.regs 4))) rfl (fun _ => by kernel_rfl) ?_)
    refine Xg.ops_op (by kernel_rfl) (Xg.opx_callE' [0] (fun xx1 => [recsO (105 : Nat) (4 : Nat) sprC xx1.fst xx1.snd L, PpR p σ]) (fun _ => by kernel_rfl) (@hsp ) (by kernel_rfl) (by kernel_rfl) (by kernel_rfl) fun xx1 xh3 => ?_)
    try dsimp only at xh3
    refine Xg.ops_op (by kernel_rfl) (Xg.opx_pure ((Value.slice xx1.fst L.length xx1.snd)) rfl (fun _ => by kernel_rfl) ?_)
    refine Xg.ops_nil ?_
    refine Xg.at_seq ?_
    refine Xg.at_seq ?_
    refine Xg.at_region ?_
    refine Xg.ops_op (by kernel_rfl) (Xg.opx_pure ((iv 0)) rfl (fun _ => by kernel_rfl) ?_)
    refine Xg.ops_nil ?_
    refine Xg.at_block ?_
    rotate_left
    refine Xg.ops_op (by kernel_rfl) (Xg.opx_pure ((Value.bool false)) rfl (fun _ => by kernel_rfl) ?_)
    refine Xg.ops_op (by kernel_rfl) (Xg.opx_pure ((Value.bool false)) rfl (fun _ => by kernel_rfl) ?_)
    refine Xg.ops_skip (by kernel_rfl) ?_
    refine Xg.ops_skip (by kernel_rfl) ?_
    refine Xg.ops_skip (by kernel_rfl) ?_
    refine Xg.ops_skip (by kernel_rfl) ?_
    refine Xg.ops_skip (by kernel_rfl) ?_
    refine Xg.ops_skip (by kernel_rfl) ?_
    refine Xg.ops_op (by kernel_rfl) (Xg.opx_pure ((Value.bool false)) rfl (fun _ => by kernel_rfl) ?_)
    refine Xg.ops_op (by kernel_rfl) (Xg.opx_pure ((Value.bool false)) rfl (fun _ => by kernel_rfl) ?_)
    refine Xg.ops_nil ?_
    refine Xg.at_seq ?_
    refine Xg.at_region ?_
    refine Xg.ops_op (by kernel_rfl) (Xg.opx_pure ((pv p 0)) rfl (fun _ => by kernel_rfl) ?_)
    refine Xg.ops_op (by kernel_rfl) (Xg.opx_pure ((iv (σ.regs 4))) rfl (fun _ => by kernel_rfl) ?_)
    refine Xg.ops_op (by kernel_rfl) (Xg.opx_callE' [0] (fun xx1 => [recsO (105 : Nat) (4 : Nat) sprC xx1.fst xx1.snd L, PpR p σ]) (fun _ => by kernel_rfl) (@hsp ) (by kernel_rfl) (by kernel_rfl) (by kernel_rfl) fun xx1 xh2 => ?_)
    try dsimp only at xh2
    refine Xg.ops_op (by kernel_rfl) (Xg.opx_pure ((Value.slice xx1.fst L.length xx1.snd)) rfl (fun _ => by kernel_rfl) ?_)
    refine Xg.ops_nil ?_
    refine Xg.at_seq ?_
    refine Xg.at_seq ?_
    refine Xg.at_region ?_
    refine Xg.ops_op (by kernel_rfl) (Xg.opx_pure ((iv 0)) rfl (fun _ => by kernel_rfl) ?_)
    refine Xg.ops_nil ?_
    refine Xg.at_block ?_)
  all_goals first | (have e : σ.seen = true := (by assumption); exact absurd (b9.symm.trans e) (by decide)) | skip
  (focus
    refine Xg.at_rounds_inv (α := (Nat × (Nat → Int)) × (Nat → Value)) (fun x => ((fun k => k.1 ≤ 160 ∧ k.2 = drawF σ L k.1) : (Nat × (Nat → Int)) → Prop) x.1) (fun x => ((fun k => 160 - k.1) : (Nat × (Nat → Int)) → Nat) x.1) (fun x => Xg.headT [pv p 0, tu, iv (σ.regs 4), Value.bool false, Value.slice xx1.fst L.length xx1.snd, tu, tu, tu, tu, tu, pv p 0, pv p 0, pv p 0, pv p 4, iv (σ.regs 4), pv p 0, Value.bool true, Value.bool true, pv p 0, pv p 0, pv p 8365, Value.bool false, Value.bool false, Value.bool false, tu, tu, tu, tu, tu, tu, Value.bool false, pv p 0, iv (σ.regs 4), Value.slice xx1.fst L.length xx1.snd, iv 0, tu, tu, tu, tu, tu, tu, tu, tu, tu, tu, tu, tu, tu, tu, tu, tu, tu, tu, tu, tu, tu, tu, tu, tu, tu, tu, tu, tu, tu, tu, tu, tu, tu, tu, tu, tu, tu, tu, tu, tu, tu, tu, tu, tu, tu, tu, tu, tu, tu, tu, tu, tu, tu, tu, tu, tu, tu, tu, tu, tu, tu, tu, tu, tu, tu, tu, tu, tu, tu, tu, tu, tu, tu, tu, tu, tu, tu, tu, tu, tu, tu, tu, tu, tu, tu, tu, tu, tu, tu, tu, tu, tu, tu, tu, tu, tu, tu, tu, tu, tu, tu, tu, tu] [5, 6, 7, 8, 9, 35, 36, 37, 38, 39, 40, 41, 42, 43, 44, 45, 46, 47, 48, 49, 50, 51, 52, 53, 54, 55, 56, 57, 58, 59, 60, 61, 62, 63, 64, 65, 66, 67, 68, 69, 70, 71, 72, 73, 74, 75, 76, 77, 78, 79, 80, 81, 82, 83, 84, 85, 86, 87, 88, 89, 90, 91, 92, 93, 94, 95, 96, 97, 98, 99, 100, 101, 102, 103, 104, 105, 106, 107, 108, 109, 110, 111, 112, 113, 114, 115, 116, 117, 118, 119, 120, 121, 122, 123, 124, 125, 126, 127, 128, 129] (((fun k => [(34, .int .i64 (k.1 : Nat))]) : (Nat × (Nat → Int)) → List (Nat × Go.Value)) x.1) x.2) (fun x => ((fun k => [recsO 105 4 sprC xx1.1 xx1.2 L, PpR p { σ with now := k.2 }]) : (Nat × (Nat → Int)) → List Go.Sl.HP) x.1) (((0, σ.now)), fun j => ([pv p 0, tu, iv (σ.regs 4), Value.bool false, Value.slice xx1.fst L.length xx1.snd, tu, tu, tu, tu, tu, pv p 0, pv p 0, pv p 0, pv p 4, iv (σ.regs 4), pv p 0, Value.bool true, Value.bool true, pv p 0, pv p 0, pv p 8365, Value.bool false, Value.bool false, Value.bool false, tu, tu, tu, tu, tu, tu, Value.bool false, pv p 0, iv (σ.regs 4), Value.slice xx1.fst L.length xx1.snd, iv 0, tu, tu, tu, tu, tu, tu, tu, tu, tu, tu, tu, tu, tu, tu, tu, tu, tu, tu, tu, tu, tu, tu, tu, tu, tu, tu, tu, tu, tu, tu, tu, tu, tu, tu, tu, tu, tu, tu, tu, tu, tu, tu, tu, tu, tu, tu, tu, tu, tu, tu, tu, tu, tu, tu, tu, tu, tu, tu, tu, tu, tu, tu, tu, tu, tu, tu, tu, tu, tu, tu, tu, tu, tu, tu, tu, tu, tu, tu, tu, tu, tu, tu, tu, tu, tu, tu, tu, tu, tu, tu, tu, tu, tu, tu, tu, tu, tu, tu, tu, tu, tu, tu, tu] : List Value).getD j undef) (by kernel_rfl) (by kernel_rfl) ?_ ?_)
  · exact ⟨Nat.zero_le _, (drawF_0 σ L).symm⟩
  rintro ⟨⟨k, f⟩, J⟩ ⟨hk, hf⟩ ih
  dsimp only at hk hf
  (focus
    refine Xg.At.same (T' := [pv p 0, tu, iv (σ.regs 4), Value.bool false, Value.slice xx1.fst L.length xx1.snd, J 5, J 6, J 7, J 8, J 9, pv p 0, pv p 0, pv p 0, pv p 4, iv (σ.regs 4), pv p 0, Value.bool true, Value.bool true, pv p 0, pv p 0, pv p 8365, Value.bool false, Value.bool false, Value.bool false, tu, tu, tu, tu, tu, tu, Value.bool false, pv p 0, iv (σ.regs 4), Value.slice xx1.fst L.length xx1.snd, iv (↑k : Int), J 35, J 36, J 37, J 38, J 39, J 40, J 41, J 42, J 43, J 44, J 45, J 46, J 47, J 48, J 49, J 50, J 51, J 52, J 53, J 54, J 55, J 56, J 57, J 58, J 59, J 60, J 61, J 62, J 63, J 64, J 65, J 66, J 67, J 68, J 69, J 70, J 71, J 72, J 73, J 74, J 75, J 76, J 77, J 78, J 79, J 80, J 81, J 82, J 83, J 84, J 85, J 86, J 87, J 88, J 89, J 90, J 91, J 92, J 93, J 94, J 95, J 96, J 97, J 98, J 99, J 100, J 101, J 102, J 103, J 104, J 105, J 106, J 107, J 108, J 109, J 110, J 111, J 112, J 113, J 114, J 115, J 116, J 117, J 118, J 119, J 120, J 121, J 122, J 123, J 124, J 125, J 126, J 127, J 128, J 129, tu, tu, tu, tu, tu, tu, tu, tu]) (L' := [recsO (105 : Nat) (4 : Nat) sprC xx1.fst xx1.snd L, PpR p (Pp.mk σ.regs σ.vram σ.oam σ.clock σ.seen σ.rows ((k, f), J).fst.snd σ.last)]) (by kernel_rfl) rfl ?_)
  by_cases hlt : k < 160
  · have hfb := drawF_bd hσ L k
    have hsucc := drawF_succ σ L k h4.1
    rw [← hf] at hfb hsucc
    have hfin : ∀ c, c = pixI σ L k → upd f (160 * σ.regs 4 + (k : Int)).toNat c = drawF σ L (k + 1) := fun c e => by
      rw [hsucc, e, show (160 * σ.regs 4 + (k : Int)).toNat = 160 * (σ.regs 4).toNat + k from by omega]
    have hpix : ∀ (n c : Int) (o : Spr × Int), n = groundI σ k → o = overI σ (σ.regs 4) k L → c = mixI σ n o → c = pixI σ L k := fun n c o e1 e2 e3 => by rw [e3, e1, e2]; rfl
    have hb1 := band_255 (σ.regs 4 + σ.regs 2)
    have hb2 := band_255 ((k : Int) + σ.regs 3)
    have hov := over_n p σ f hσ hfb xx1.1 xx1.2 L hL10 (σ.regs 4) k h4 (by omega) hLk
    have hti := fun high row col => tile_n p σ f hσ hfb high row col
    have hco := fun r n => colour_n p σ f hσ hfb r n
    (focus
      refine Xg.at_seq ?_
      refine Xg.at_region ?_
      refine Xg.ops_op (by kernel_rfl) (Xg.opx_pure (.bool (decide ((((↑k : Int)) : Int) < ((160 : Int))))) rfl (fun _ => by kernel_rfl) ?_)
      refine Xg.ops_nil ?_
      refine Xg.at_seq ?_
      refine Xg.at_true (t := decide (((↑k : Int) < (160 : Int)))) (by kernel_rfl) (decide_eq_true (by omega)) ?_
      refine Xg.at_skip ?_
      refine Xg.at_seq ?_
      refine Xg.at_block ?_
      refine Xg.at_seq ?_
      refine Xg.at_region ?_
      refine Xg.ops_op (by kernel_rfl) (Xg.opx_pure ((iv (↑k : Int))) rfl (fun _ => by kernel_rfl) ?_)
      refine Xg.ops_op (by kernel_rfl) (Xg.opx_pure ((iv (↑k : Int))) rfl (fun _ => by kernel_rfl) ?_)
      refine Xg.ops_nil ?_
      refine Xg.at_seq ?_
      refine Xg.at_region ?_
      refine Xg.ops_op (by kernel_rfl) (Xg.opx_pure ((iv 0)) rfl (fun _ => by kernel_rfl) ?_)
      refine Xg.ops_nil ?_
      refine Xg.at_seq ?_
      refine Xg.at_block ?_
      refine Xg.at_seq ?_
      refine Xg.at_region ?_
      refine Xg.ops_op (by kernel_rfl) (Xg.opx_pure ((pv p 0)) rfl (fun _ => by kernel_rfl) ?_)
      refine Xg.ops_op (by kernel_rfl) (Xg.opx_call1' [1] [PpR p (Pp.mk σ.regs σ.vram σ.oam σ.clock σ.seen σ.rows f σ.last), recsO (105 : Nat) (4 : Nat) sprC xx1.fst xx1.snd L] (fun _ => by kernel_rfl) (@h0c (f)) (by kernel_rfl) (by kernel_rfl) (by kernel_rfl) ?_)
      refine Xg.ops_op (by kernel_rfl) (Xg.opx_pure (.bool true) rfl (fun _ => by kernel_rfl) ?_)
      refine Xg.ops_op (by kernel_rfl) (Xg.opx_pure ((Value.bool true)) rfl (fun _ => by kernel_rfl) ?_)
      refine Xg.ops_nil ?_
      refine Xg.at_true (t := true) (by kernel_rfl) rfl ?_
      refine Xg.at_skip ?_
      refine Xg.at_inBlock ?_
      refine Xg.at_seq ?_
      refine Xg.at_region ?_
      refine Xg.ops_op (by kernel_rfl) (Xg.opx_pure ((pv p 0)) rfl (fun _ => by kernel_rfl) ?_)
      refine Xg.ops_op (by kernel_rfl) (Xg.opx_pure ((iv 0)) rfl (fun _ => by kernel_rfl) ?_)
      refine Xg.ops_op (by kernel_rfl) (Xg.opx_callE' [0] (fun xx2 => [PpR p (Pp.mk σ.regs σ.vram σ.oam σ.clock σ.seen σ.rows f σ.last), recsO (105 : Nat) (4 : Nat) sprC xx1.fst xx1.snd L]) (fun _ => by kernel_rfl) (@hco (((7 : Int))) (((0 : Int))) (by omega) (by omega)) (by kernel_rfl) (by kernel_rfl) (by kernel_rfl) fun xx2 xh3 => ?_)
      try dsimp only at xh3
      obtain ⟨xh3_0, xh3_1, xh3_2⟩ := xh3
      refine Xg.ops_op (by kernel_rfl) (Xg.opx_pure ((uv xx2)) rfl (fun _ => by kernel_rfl) ?_)
      refine Xg.ops_nil ?_
      refine Xg.at_seq ?_
      refine Xg.at_seq ?_
      refine Xg.at_region ?_
      refine Xg.ops_op (by kernel_rfl) (Xg.opx_pure ((pv p 0)) rfl (fun _ => by kernel_rfl) ?_)
      refine Xg.ops_op (by kernel_rfl) (Xg.opx_pure ((Value.slice xx1.fst L.length xx1.snd)) rfl (fun _ => by kernel_rfl) ?_)
      refine Xg.ops_op (by kernel_rfl) (Xg.opx_pure ((iv (σ.regs 4))) rfl (fun _ => by kernel_rfl) ?_)
      refine Xg.ops_op (by kernel_rfl) (Xg.opx_pure ((iv (↑k : Int))) rfl (fun _ => by kernel_rfl) ?_)
      refine Xg.ops_op (by kernel_rfl) (Xg.opx_callE' [1, 0] (fun xx3 => [recsO (105 : Nat) (4 : Nat) sprC xx1.fst xx1.snd L, PpR p (Pp.mk σ.regs σ.vram σ.oam σ.clock σ.seen σ.rows f σ.last)]) (fun _ => by kernel_rfl) (@hov ) (by kernel_rfl) (by kernel_rfl) (by kernel_rfl) fun xx3 xh4 => ?_)
      try dsimp only at xh4
      obtain ⟨xh4_0, xh4_1, xh4_2, xh4_3, xh4_4⟩ := xh4
      refine Xg.ops_op (by kernel_rfl) (Xg.opx_pure ((Value.tuple #[Value.agg #[iv xx3.fst.row, iv xx3.fst.column, iv xx3.fst.tile, iv xx3.fst.flags], iv xx3.snd])) rfl (fun _ => by kernel_rfl) ?_)
      refine Xg.ops_op (by kernel_rfl) (Xg.opx_pure ((Value.agg #[iv xx3.fst.row, iv xx3.fst.column, iv xx3.fst.tile, iv xx3.fst.flags])) rfl (fun _ => by kernel_rfl) ?_)
      refine Xg.ops_op (by kernel_rfl) (Xg.opx_pure ((iv xx3.snd)) rfl (fun _ => by kernel_rfl) ?_)
      refine Xg.ops_op (by kernel_rfl) (Xg.opx_new 4 [iv 0, iv 0, iv 0, iv 0] (by kernel_rfl) (by kernel_rfl) fun xb1 => ?_)
      refine Xg.ops_op (by kernel_rfl) (Xg.opx_storen 4 (off := 0) 0 [iv xx3.fst.row, iv xx3.fst.column, iv xx3.fst.tile, iv xx3.fst.flags] (by kernel_rfl) rfl (by kernel_rfl) (by kernel_rfl) rfl (by kernel_rfl) (Nat.le_of_ble_eq_true (by kernel_rfl)) ?_)
      refine Xg.ops_op (by kernel_rfl) (Xg.opx_pure ((iv xx3.snd)) rfl (fun _ => by kernel_rfl) ?_)
      refine Xg.ops_nil ?_
      refine Xg.at_seq ?_
      refine Xg.at_region ?_
      refine Xg.ops_op (by kernel_rfl) (Xg.opx_pure ((iv xx3.snd)) rfl (fun _ => by kernel_rfl) ?_)
      refine Xg.ops_op (by kernel_rfl) (Xg.opx_pure (.bool (decide ((xx3.snd : Int) > ((0 : Int))))) rfl (fun _ => by kernel_rfl) ?_)
      refine Xg.ops_op (by kernel_rfl) (Xg.opx_pure ((Value.bool (decide (xx3.snd > (0 : Int))))) rfl (fun _ => by kernel_rfl) ?_)
      refine Xg.ops_flag (j := 102) (c := (decide (xx3.snd > (0 : Int)))) (by kernel_rfl) (fun xh5 => ?_) (fun xh5 => ?_)
      replace xh5 : (xx3.snd > (0 : Int)) := of_decide_eq_true xh5
      rotate_left
      replace xh5 : ¬ ((xx3.snd > (0 : Int))) := of_decide_eq_false xh5
      rotate_right
      refine Xg.ops_op (by kernel_rfl) (Xg.opx_pure ((pv xb1 3)) rfl (fun _ => by kernel_rfl) ?_)
      refine Xg.ops_op (by kernel_rfl) (Xg.opx_load (b := xb1) (off := ((3 : Nat))) 0 (iv xx3.fst.flags) rfl (by kernel_rfl) (by kernel_rfl) (by kernel_rfl) ?_)
      refine Xg.ops_op (by kernel_rfl) (Xg.opx_pure (.int .i64 (Xg.band .i64 (xx3.fst.flags) (((128 : Int))))) rfl (fun _ => by kernel_rfl) ?_)
      refine Xg.ops_op (by kernel_rfl) (Xg.opx_pure (.bool (decide (((band IntKind.i64 xx3.fst.flags (128 : Int)) : Int) = ((0 : Int))))) rfl (fun _ => by kernel_rfl) ?_)
      refine Xg.ops_op (by kernel_rfl) (Xg.opx_pure ((Value.bool (decide (band IntKind.i64 xx3.fst.flags (128 : Int) = (0 : Int))))) rfl (fun _ => by kernel_rfl) ?_)
      refine Xg.ops_flag (j := 107) (c := (decide (band IntKind.i64 xx3.fst.flags (128 : Int) = (0 : Int)))) (by kernel_rfl) (fun xh6 => ?_) (fun xh6 => ?_)
      replace xh6 : (band IntKind.i64 xx3.fst.flags (128 : Int) = (0 : Int)) := of_decide_eq_true xh6
      rotate_left
      replace xh6 : ¬ ((band IntKind.i64 xx3.fst.flags (128 : Int) = (0 : Int))) := of_decide_eq_false xh6
      rotate_right
      refine Xg.ops_skip (by kernel_rfl) ?_
      refine Xg.ops_skip (by kernel_rfl) ?_
      refine Xg.ops_op (by kernel_rfl) (Xg.opx_pure ((Value.bool true)) rfl (fun _ => by kernel_rfl) ?_)
      refine Xg.ops_op (by kernel_rfl) (Xg.opx_pure ((Value.bool true)) rfl (fun _ => by kernel_rfl) ?_)
      refine Xg.ops_nil ?_
      refine Xg.at_true (t := true) (by kernel_rfl) rfl ?_
      refine Xg.at_region ?_
      refine Xg.ops_op (by kernel_rfl) (Xg.opx_pure ((pv p 0)) rfl (fun _ => by kernel_rfl) ?_)
      refine Xg.ops_op (by kernel_rfl) (Xg.opx_pure ((pv xb1 3)) rfl (fun _ => by kernel_rfl) ?_)
      refine Xg.ops_op (by kernel_rfl) (Xg.opx_load (b := xb1) (off := ((3 : Nat))) 0 (iv xx3.fst.flags) rfl (by kernel_rfl) (by kernel_rfl) (by kernel_rfl) ?_)
      refine Xg.ops_op (by kernel_rfl) (Xg.opx_int .i64 (Int.fdiv (xx3.fst.flags) 16) rfl (fun _ => by kernel_rfl) (Xg.shr_div _ 16 (by decide)) ?_)
      refine Xg.ops_op (by kernel_rfl) (Xg.opx_pure (.int .i64 (Xg.band .i64 ((xx3.fst.flags / (16 : Int))) (((1 : Int))))) rfl (fun _ => by kernel_rfl) ?_)
      refine Xg.ops_op (by kernel_rfl) (Xg.opx_int .i64 (IntKind.wrap .i64 (((8 : Int) + band IntKind.i64 (xx3.fst.flags / (16 : Int)) (1 : Int)))) rfl (fun _ => by kernel_rfl) (Xg.wrap_i64_in (by omega)) ?_)
      refine Xg.ops_op (by kernel_rfl) (Xg.opx_pure ((iv xx3.snd)) rfl (fun _ => by kernel_rfl) ?_)
      refine Xg.ops_op (by kernel_rfl) (Xg.opx_callE' [2] (fun xx4 => [PpR p (Pp.mk σ.regs σ.vram σ.oam σ.clock σ.seen σ.rows f σ.last), row xb1 (105 : Nat) [iv xx3.fst.row, iv xx3.fst.column, iv xx3.fst.tile, iv xx3.fst.flags], recsO (105 : Nat) (4 : Nat) sprC xx1.fst xx1.snd L]) (fun _ => by kernel_rfl) (@hco (((8 : Int) + band IntKind.i64 (xx3.fst.flags / (16 : Int)) (1 : Int))) (xx3.snd) (by omega) (by omega)) (by kernel_rfl) (by kernel_rfl) (by kernel_rfl) fun xx4 xh7 => ?_)
      try dsimp only at xh7
      obtain ⟨xh7_0, xh7_1, xh7_2⟩ := xh7
      refine Xg.ops_op (by kernel_rfl) (Xg.opx_pure ((uv xx4)) rfl (fun _ => by kernel_rfl) ?_)
      refine Xg.ops_nil ?_
      refine Xg.at_region ?_
      refine Xg.ops_op (by kernel_rfl) (Xg.opx_pure ((pv p 0)) rfl (fun _ => by kernel_rfl) ?_)
      refine Xg.ops_op (by kernel_rfl) (Xg.opx_pure ((iv (σ.regs 4))) rfl (fun _ => by kernel_rfl) ?_)
      refine Xg.ops_op (by kernel_rfl) (Xg.opx_int .i64 (IntKind.wrap .i64 (((160 : Int) * σ.regs 4))) rfl (fun _ => by kernel_rfl) (Xg.wrap_i64_in (by omega)) ?_)
      refine Xg.ops_op (by kernel_rfl) (Xg.opx_pure ((iv (↑k : Int))) rfl (fun _ => by kernel_rfl) ?_)
      refine Xg.ops_op (by kernel_rfl) (Xg.opx_int .i64 (IntKind.wrap .i64 (((160 : Int) * σ.regs 4 + (↑k : Int)))) rfl (fun _ => by kernel_rfl) (Xg.wrap_i64_in (by omega)) ?_)
      refine Xg.ops_op (by kernel_rfl) (Xg.opx_pure ((uv xx4)) rfl (fun _ => by kernel_rfl) ?_)
      refine Xg.ops_op (by kernel_rfl) (Xg.opx_pure ((pv p 0)) rfl (fun _ => by kernel_rfl) ?_)
      refine Xg.ops_op (by kernel_rfl) (Xg.opx_pure ((pv p 8367)) rfl (fun _ => by kernel_rfl) ?_)
      refine Xg.ops_op (by kernel_rfl) (Xg.opx_run (.pointer (some (Addr.mk p ((8367 : Nat) + ((160 : Int) * σ.regs 4 + (↑k : Int)).toNat) none))) rfl (Xg.run_ix_array' (elem := 5) (len := 23040) (b := p) (off := ((8367 : Nat))) (kd := .i64) (e := ((160 : Int) * σ.regs 4 + (↑k : Int))) 1 (((160 : Int) * σ.regs 4 + (↑k : Int)).toNat) ((8367 : Nat) + ((160 : Int) * σ.regs 4 + (↑k : Int)).toNat) (by kernel_rfl) (by kernel_rfl) (by kernel_rfl) (by kernel_rfl) (by omega) (by omega) (by omega)) ?_)
      refine Xg.ops_op (by kernel_rfl) (Xg.opx_store_c (off := ((8367 : Nat) + ((160 : Int) * σ.regs 4 + (↑k : Int)).toNat)) (cs' := (ppc (Pp.mk σ.regs σ.vram σ.oam σ.clock σ.seen σ.rows (upd f ((160 : Int) * σ.regs 4 + (↑k : Int)).toNat xx4) σ.last))) 0 (uv xx4) (by kernel_rfl) rfl (by kernel_rfl) (by kernel_rfl) (by kernel_rfl) (@Go.Proofs.Ytkfclamiendamaa.s_now ((Pp.mk σ.regs σ.vram σ.oam σ.clock σ.seen σ.rows f σ.last)) ((((160 : Int) * σ.regs 4 + (↑k : Int)).toNat)) (xx4) (by omega)) ?_)
      refine Xg.ops_nil ?_
      refine Xg.at_inBlock ?_
      refine Xg.at_region ?_
      refine Xg.ops_op (by kernel_rfl) (Xg.opx_int .i64 (IntKind.wrap .i64 (((↑k : Int) + (1 : Int)))) rfl (fun _ => by kernel_rfl) (Xg.wrap_i64_in (by omega)) ?_)
      refine Xg.ops_op (by kernel_rfl) (Xg.opx_pure ((iv ((↑k : Int) + (1 : Int)))) rfl (fun _ => by kernel_rfl) ?_)
      refine Xg.ops_nil ?_
      refine Xg.at_inLoop ?_
      rotate_left
      refine Xg.ops_op (by kernel_rfl) (Xg.opx_pure ((iv 0)) rfl (fun _ => by kernel_rfl) ?_)
      refine Xg.ops_op (by kernel_rfl) (Xg.opx_pure ((Value.bool true)) rfl (fun _ => by kernel_rfl) ?_)
      refine Xg.ops_op (by kernel_rfl) (Xg.opx_pure ((Value.bool true)) rfl (fun _ => by kernel_rfl) ?_)
      refine Xg.ops_op (by kernel_rfl) (Xg.opx_pure ((Value.bool true)) rfl (fun _ => by kernel_rfl) ?_)
      refine Xg.ops_nil ?_
      refine Xg.at_true (t := true) (by kernel_rfl) rfl ?_
      refine Xg.at_region ?_
      refine Xg.ops_op (by kernel_rfl) (Xg.opx_pure ((pv p 0)) rfl (fun _ => by kernel_rfl) ?_)
      refine Xg.ops_op (by kernel_rfl) (Xg.opx_pure ((pv xb1 3)) rfl (fun _ => by kernel_rfl) ?_)
      refine Xg.ops_op (by kernel_rfl) (Xg.opx_load (b := xb1) (off := ((3 : Nat))) 0 (iv xx3.fst.flags) rfl (by kernel_rfl) (by kernel_rfl) (by kernel_rfl) ?_)
      refine Xg.ops_op (by kernel_rfl) (Xg.opx_int .i64 (Int.fdiv (xx3.fst.flags) 16) rfl (fun _ => by kernel_rfl) (Xg.shr_div _ 16 (by decide)) ?_)
      refine Xg.ops_op (by kernel_rfl) (Xg.opx_pure (.int .i64 (Xg.band .i64 ((xx3.fst.flags / (16 : Int))) (((1 : Int))))) rfl (fun _ => by kernel_rfl) ?_)
      refine Xg.ops_op (by kernel_rfl) (Xg.opx_int .i64 (IntKind.wrap .i64 (((8 : Int) + band IntKind.i64 (xx3.fst.flags / (16 : Int)) (1 : Int)))) rfl (fun _ => by kernel_rfl) (Xg.wrap_i64_in (by omega)) ?_)
      refine Xg.ops_op (by kernel_rfl) (Xg.opx_pure ((iv xx3.snd)) rfl (fun _ => by kernel_rfl) ?_)
      refine Xg.ops_op (by kernel_rfl) (Xg.opx_callE' [2] (fun xx4 => [PpR p (Pp.mk σ.regs σ.vram σ.oam σ.clock σ.seen σ.rows f σ.last), row xb1 (105 : Nat) [iv xx3.fst.row, iv xx3.fst.column, iv xx3.fst.tile, iv xx3.fst.flags], recsO (105 : Nat) (4 : Nat) sprC xx1.fst xx1.snd L]) (fun _ => by kernel_rfl) (@hco (((8 : Int) + band IntKind.i64 (xx3.fst.flags / (16 : Int)) (1 : Int))) (xx3.snd) (by omega) (by omega)) (by kernel_rfl) (by kernel_rfl) (by kernel_rfl) fun xx4 xh7 => ?_)
      try dsimp only at xh7
      obtain ⟨xh7_0, xh7_1, xh7_2⟩ := xh7
      refine Xg.ops_op (by kernel_rfl) (Xg.opx_pure ((uv xx4)) rfl (fun _ => by kernel_rfl) ?_)
      refine Xg.ops_nil ?_
      refine Xg.at_region ?_
      refine Xg.ops_op (by kernel_rfl) (Xg.opx_pure ((pv p 0)) rfl (fun _ => by kernel_rfl) ?_)
      refine Xg.ops_op (by kernel_rfl) (Xg.opx_pure ((iv (σ.regs 4))) rfl (fun _ => by kernel_rfl) ?_)
      refine Xg.ops_op (by kernel_rfl) (Xg.opx_int .i64 (IntKind.wrap .i64 (((160 : Int) * σ.regs 4))) rfl (fun _ => by kernel_rfl) (Xg.wrap_i64_in (by omega)) ?_)
      refine Xg.ops_op (by kernel_rfl) (Xg.opx_pure ((iv (↑k : Int))) rfl (fun _ => by kernel_rfl) ?_)
      refine Xg.ops_op (by kernel_rfl) (Xg.opx_int .i64 (IntKind.wrap .i64 (((160 : Int) * σ.regs 4 + (↑k : Int)))) rfl (fun _ => by kernel_rfl) (Xg.wrap_i64_in (by omega)) ?_)
      refine Xg.ops_op (by kernel_rfl) (Xg.opx_pure ((uv xx4)) rfl (fun _ => by kernel_rfl) ?_)
      refine Xg.ops_op (by kernel_rfl) (Xg.opx_pure ((pv p 0)) rfl (fun _ => by kernel_rfl) ?_)
      refine Xg.ops_op (by kernel_rfl) (Xg.opx_pure ((pv p 8367)) rfl (fun _ => by kernel_rfl) ?_)
      refine Xg.ops_op (by kernel_rfl) (Xg.opx_run (.pointer (some (Addr.mk p ((8367 : Nat) + ((160 : Int) * σ.regs 4 + (↑k : Int)).toNat) none))) rfl (Xg.run_ix_array' (elem := 5) (len := 23040) (b := p) (off := ((8367 : Nat))) (kd := .i64) (e := ((160 : Int) * σ.regs 4 + (↑k : Int))) 1 (((160 : Int) * σ.regs 4 + (↑k : Int)).toNat) ((8367 : Nat) + ((160 : Int) * σ.regs 4 + (↑k : Int)).toNat) (by kernel_rfl) (by kernel_rfl) (by kernel_rfl) (by kernel_rfl) (by omega) (by omega) (by omega)) ?_)
      refine Xg.ops_op (by kernel_rfl) (Xg.opx_store_c (off := ((8367 : Nat) + ((160 : Int) * σ.regs 4 + (↑k : Int)).toNat)) (cs' := (ppc (Pp.mk σ.regs σ.vram σ.oam σ.clock σ.seen σ.rows (upd f ((160 : Int) * σ.regs 4 + (↑k : Int)).toNat xx4) σ.last))) 0 (uv xx4) (by kernel_rfl) rfl (by kernel_rfl) (by kernel_rfl) (by kernel_rfl) (@Go.Proofs.Ytkfclamiendamaa.s_now ((Pp.mk σ.regs σ.vram σ.oam σ.clock σ.seen σ.rows f σ.last)) ((((160 : Int) * σ.regs 4 + (↑k : Int)).toNat)) (xx4) (by omega)) ?_)
      refine Xg.ops_nil ?_
      refine Xg.at_inBlock ?_
      refine Xg.at_region ?_
      refine Xg.ops_op (by kernel_rfl) (Xg.opx_int .i64 (IntKind.wrap .i64 (((↑k : Int) + (1 : Int)))) rfl (fun _ => by kernel_rfl) (Xg.wrap_i64_in (by omega)) ?_)
      refine Xg.ops_op (by kernel_rfl) (Xg.opx_pure ((iv ((↑k : Int) + (1 : Int)))) rfl (fun _ => by kernel_rfl) ?_)
      refine Xg.ops_nil ?_
      refine Xg.at_inLoop ?_
      rotate_left
      refine Xg.ops_skip (by kernel_rfl) ?_
      refine Xg.ops_skip (by kernel_rfl) ?_
      refine Xg.ops_skip (by kernel_rfl) ?_
      refine Xg.ops_skip (by kernel_rfl) ?_
      refine Xg.ops_skip (by kernel_rfl) ?_
      refine Xg.ops_skip (by kernel_rfl) ?_
      refine Xg.ops_skip (by kernel_rfl) ?_
      refine Xg.ops_skip (by kernel_rfl) ?_
      refine Xg.ops_op (by kernel_rfl) (Xg.opx_pure ((Value.bool false)) rfl (fun _ => by kernel_rfl) ?_)
      refine Xg.ops_nil ?_
      refine Xg.at_false (t := false) (by kernel_rfl) rfl ?_
      refine Xg.at_skip ?_
      refine Xg.at_region ?_
      refine Xg.ops_op (by kernel_rfl) (Xg.opx_pure ((pv p 0)) rfl (fun _ => by kernel_rfl) ?_)
      refine Xg.ops_op (by kernel_rfl) (Xg.opx_pure ((iv (σ.regs 4))) rfl (fun _ => by kernel_rfl) ?_)
      refine Xg.ops_op (by kernel_rfl) (Xg.opx_int .i64 (IntKind.wrap .i64 (((160 : Int) * σ.regs 4))) rfl (fun _ => by kernel_rfl) (Xg.wrap_i64_in (by omega)) ?_)
      refine Xg.ops_op (by kernel_rfl) (Xg.opx_pure ((iv (↑k : Int))) rfl (fun _ => by kernel_rfl) ?_)
      refine Xg.ops_op (by kernel_rfl) (Xg.opx_int .i64 (IntKind.wrap .i64 (((160 : Int) * σ.regs 4 + (↑k : Int)))) rfl (fun _ => by kernel_rfl) (Xg.wrap_i64_in (by omega)) ?_)
      refine Xg.ops_op (by kernel_rfl) (Xg.opx_pure ((uv xx2)) rfl (fun _ => by kernel_rfl) ?_)
      refine Xg.ops_op (by kernel_rfl) (Xg.opx_pure ((pv p 0)) rfl (fun _ => by kernel_rfl) ?_)
      refine Xg.ops_op (by kernel_rfl) (Xg.opx_pure ((pv p 8367)) rfl (fun _ => by kernel_rfl) ?_)
      refine Xg.ops_op (by kernel_rfl) (Xg.opx_run (.pointer (some (Addr.mk p ((8367 : Nat) + ((160 : Int) * σ.regs 4 + (↑k : Int)).toNat) none))) rfl (Xg.run_ix_array' (elem := 5) (len := 23040) (b := p) (off := ((8367 : Nat))) (kd := .i64) (e := ((160 : Int) * σ.regs 4 + (↑k : Int))) 1 (((160 : Int) * σ.regs 4 + (↑k : Int)).toNat) ((8367 : Nat) + ((160 : Int) * σ.regs 4 + (↑k : Int)).toNat) (by kernel_rfl) (by kernel_rfl) (by kernel_rfl) (by kernel_rfl) (by omega) (by omega) (by omega)) ?_)
      refine Xg.ops_op (by kernel_rfl) (Xg.opx_store_c (off := ((8367 : Nat) + ((160 : Int) * σ.regs 4 + (↑k : Int)).toNat)) (cs' := (ppc (Pp.mk σ.regs σ.vram σ.oam σ.clock σ.seen σ.rows (upd f ((160 : Int) * σ.regs 4 + (↑k : Int)).toNat xx2) σ.last))) 2 (uv xx2) (by kernel_rfl) rfl (by kernel_rfl) (by kernel_rfl) (by kernel_rfl) (@Go.Proofs.Ytkfclamiendamaa.s_now ((Pp.mk σ.regs σ.vram σ.oam σ.clock σ.seen σ.rows f σ.last)) ((((160 : Int) * σ.regs 4 + (↑k : Int)).toNat)) (xx2) (by omega)) ?_)
      refine Xg.ops_nil ?_
      refine Xg.at_inBlock ?_
      refine Xg.at_region ?_
      refine Xg.ops_op (by kernel_rfl) (Xg.opx_int .i64 (IntKind.wrap .i64 (((↑k : Int) + (1 : Int)))) rfl (fun _ => by kernel_rfl) (Xg.wrap_i64_in (by omega)) ?_)
      refine Xg.ops_op (by kernel_rfl) (Xg.opx_pure ((iv ((↑k : Int) + (1 : Int)))) rfl (fun _ => by kernel_rfl) ?_)
      refine Xg.ops_nil ?_
      refine Xg.at_inLoop ?_)
    · (focus
        refine Xg.at_keep [1, 2] (by kernel_rfl) ?_
        refine Xs.same ?_ (fun J9 => ih (((k + 1, upd f (160 * σ.regs 4 + (k : Int)).toNat xx2)), J9) ?_ ?_) (by kernel_rfl))
      · rfl
      · exact ⟨by dsimp only; omega, hfin _ (hpix 0 _ xx3 (by unfold groundI; rw [if_neg (by simp [b0])]) (by assumption) (by rw [mixI, if_neg (fun h => by omega)]; exact (show xx2 = palI σ 7 0 from by assumption)))⟩
      · dsimp only; omega
    · (focus
        refine Xg.at_keep [2, 0] (by kernel_rfl) ?_
        refine Xs.same ?_ (fun J9 => ih (((k + 1, upd f (160 * σ.regs 4 + (k : Int)).toNat xx4)), J9) ?_ ?_) (by kernel_rfl))
      · rfl
      · exact ⟨by dsimp only; omega, hfin _ (hpix 0 _ xx3 (by unfold groundI; rw [if_neg (by simp [b0])]) (by assumption) (by rw [mixI, if_pos (by omega), show xx4 = palI σ (8 + band .i64 (xx3.1.flags / 16) 1) xx3.2 from by assumption, show band .i64 (xx3.1.flags / 16) 1 = xx3.1.flags / 16 % 2 from by assumption]))⟩
      · dsimp only; omega
    · (focus
        refine Xg.at_keep [2, 0] (by kernel_rfl) ?_
        refine Xs.same ?_ (fun J9 => ih (((k + 1, upd f (160 * σ.regs 4 + (k : Int)).toNat xx4)), J9) ?_ ?_) (by kernel_rfl))
      · rfl
      · exact ⟨by dsimp only; omega, hfin _ (hpix 0 _ xx3 (by unfold groundI; rw [if_neg (by simp [b0])]) (by assumption) (by rw [mixI, if_pos (by omega), show xx4 = palI σ (8 + band .i64 (xx3.1.flags / 16) 1) xx3.2 from by assumption, show band .i64 (xx3.1.flags / 16) 1 = xx3.1.flags / 16 % 2 from by assumption]))⟩
      · dsimp only; omega
  · clear ih
    have hkn : k = 160 := by omega
    subst hkn
    subst hf
    (focus
      refine Xg.at_seq ?_
      refine Xg.at_region ?_
      refine Xg.ops_op (by kernel_rfl) (Xg.opx_pure ((Value.bool false)) rfl (fun _ => by kernel_rfl) ?_)
      refine Xg.ops_nil ?_
      refine Xg.at_seq ?_
      refine Xg.at_false (t := false) (by kernel_rfl) rfl ?_
      refine Xg.at_exit rfl ?_
      refine Xg.at_seq ?_
      refine Xg.at_region ?_
      refine Xg.ops_op (by kernel_rfl) (Xg.opx_pure ((Value.bool false)) rfl (fun _ => by kernel_rfl) ?_)
      refine Xg.ops_nil ?_
      refine Xg.at_false (t := false) (by kernel_rfl) rfl ?_
      refine Xg.at_skip ?_
      refine Xg.at_end_ps (v := (tu)) [1] [PpR p (Pp.mk σ.regs σ.vram σ.oam σ.clock σ.seen σ.rows (drawF σ L (160 : Nat)) σ.last)] Go.Proofs.Try.func59 (fun _ => by kernel_rfl) (by kernel_rfl) (by kernel_rfl) ?_
      exact ⟨by kernel_rfl, by kernel_rfl⟩)

set_option maxHeartbeats 0 in
theorem draw_c0 (p : Nat) (σ : Pp) (hσ : σ.Wf) (hly : σ.regs 4 < 144) (hrows : σ.rows ≤ 143) (b5 : hasB (σ.regs 0) 5 = true) (b9 : σ.seen = true) (b11 : ¬ σ.regs 11 ≤ 166) (b0 : hasB (σ.regs 0) 0 = false) : Does Try.prog 59 [pt p] [PpR p σ] (Ret (.tuple #[]) [PpR p (drawP σ)]) := by
  have h0 := hσ.regs 0
  have h2 := hσ.regs 2
  have h3 := hσ.regs 3
  have h4 := hσ.regs 4
  have h11 := hσ.regs 11
  have hr := hσ.rows
  have hw : winB σ = false := by unfold winB; simp [*]
  obtain ⟨L, hL⟩ : ∃ L, sprL σ (σ.regs 4) = L := ⟨_, rfl⟩
  have hLo := sprL_ok hσ (σ.regs 4)
  rw [hL] at hLo
  obtain ⟨hL10, hLk⟩ := hLo
  have hG : drawP σ = { σ with now := drawF σ L 160, rows := σ.rows } := by
    unfold drawP
    rw [hL, hw]
    rfl
  have hsp := sprites_e p σ hσ L hL
  have h5c : Does Try.prog 74 [pt p, .int .i64 5] [PpR p σ] (Ret (.bool true) [PpR p σ]) := by
    have := has_5 p σ h0
    rwa [b5] at this
  have h0c : ∀ f, Does Try.prog 74 [pt p, .int .i64 0] [PpR p { σ with now := f }] (Ret (.bool false) [PpR p { σ with now := f }]) := fun f => by
    have := has_0 p { σ with now := f } h0
    rwa [show hasB (({ σ with now := f } : Pp).regs 0) 0 = false from b0] at this
  have h3c : ∀ f, Does Try.prog 74 [pt p, .int .i64 3] [PpR p { σ with now := f }] (Ret (.bool (hasB (σ.regs 0) 3)) [PpR p { σ with now := f }]) := fun f => has_3 p { σ with now := f } h0
  have h6c : ∀ f, Does Try.prog 74 [pt p, .int .i64 6] [PpR p { σ with now := f }] (Ret (.bool (hasB (σ.regs 0) 6)) [PpR p { σ with now := f }]) := fun f => has_6 p { σ with now := f } h0
  rw [hG]
  (focus
    refine Xg.spec_of Go.Proofs.Try.func59 rfl Go.Proofs.Try.ntmps59 fun g F => ?_)
  (focus
    refine Xg.at_seq ?_
    refine Xg.at_region ?_
    refine Xg.ops_op (by kernel_rfl) (Xg.opx_pure ((pv p 0)) rfl (fun _ => by kernel_rfl) ?_)
    refine Xg.ops_op (by kernel_rfl) (Xg.opx_pure ((pv p 0)) rfl (fun _ => by kernel_rfl) ?_)
    refine Xg.ops_op (by kernel_rfl) (Xg.opx_pure ((pv p 0)) rfl (fun _ => by kernel_rfl) ?_)
    refine Xg.ops_op (by kernel_rfl) (Xg.opx_pure (pv p 4) rfl (fun _ => by kernel_rfl) ?_)
    refine Xg.ops_op (by kernel_rfl) (Xg.opx_load (b := p) (off := ((4 : Nat))) 0 (iv (σ.regs 4)) rfl (by kernel_rfl) (@Go.Proofs.Ytkfclamiendamaa.g_regs (σ) (((4 : Nat))) (by omega)) (by kernel_rfl) ?_)
    refine Xg.ops_op (by kernel_rfl) (Xg.opx_pure ((iv (σ.regs 4))) rfl (fun _ => by kernel_rfl) ?_)
    refine Xg.ops_nil ?_
    refine Xg.at_seq ?_
    refine Xg.at_region ?_
    refine Xg.ops_op (by kernel_rfl) (Xg.opx_pure ((pv p 0)) rfl (fun _ => by kernel_rfl) ?_)
    refine Xg.ops_op (by kernel_rfl) (Xg.opx_call1' [0] [PpR p σ] (fun _ => by kernel_rfl) (@h5c ) (by kernel_rfl) (by kernel_rfl) (by kernel_rfl) ?_)
    refine Xg.ops_op (by kernel_rfl) (Xg.opx_pure ((Value.bool true)) rfl (fun _ => by kernel_rfl) ?_)
    refine Xg.ops_op (by kernel_rfl) (Xg.opx_pure ((pv p 0)) rfl (fun _ => by kernel_rfl) ?_)
    refine Xg.ops_op (by kernel_rfl) (Xg.opx_pure ((pv p 0)) rfl (fun _ => by kernel_rfl) ?_)
    refine Xg.ops_op (by kernel_rfl) (Xg.opx_pure ((pv p 8365)) rfl (fun _ => by kernel_rfl) ?_)
    refine Xg.ops_op (by kernel_rfl) (Xg.opx_load (b := p) (off := ((8365 : Nat))) 0 (Value.bool σ.seen) rfl (by kernel_rfl) (@Go.Proofs.Ytkfclamiendamaa.g_seen (σ)) (by kernel_rfl) ?_)
    refine Xg.ops_flag (j := 21) (c := σ.seen) (by kernel_rfl) (fun xh1 => ?_) (fun xh1 => ?_)
    refine Xg.ops_op (by kernel_rfl) (Xg.opx_pure ((Value.bool true)) rfl (fun _ => by kernel_rfl) ?_)
    refine Xg.ops_op (by kernel_rfl) (Xg.opx_pure ((Value.bool true)) rfl (fun _ => by kernel_rfl) ?_)
    refine Xg.ops_op (by kernel_rfl) (Xg.opx_pure ((pv p 0)) rfl (fun _ => by kernel_rfl) ?_)
    refine Xg.ops_op (by kernel_rfl) (Xg.opx_pure ((pv p 0)) rfl (fun _ => by kernel_rfl) ?_)
    refine Xg.ops_op (by kernel_rfl) (Xg.opx_pure ((pv p 0)) rfl (fun _ => by kernel_rfl) ?_)
    refine Xg.ops_op (by kernel_rfl) (Xg.opx_pure (pv p 11) rfl (fun _ => by kernel_rfl) ?_)
    refine Xg.ops_op (by kernel_rfl) (Xg.opx_load (b := p) (off := ((11 : Nat))) 0 (iv (σ.regs 11)) rfl (by kernel_rfl) (@Go.Proofs.Ytkfclamiendamaa.g_regs (σ) (((11 : Nat))) (by omega)) (by kernel_rfl) ?_)
    refine Xg.ops_op (by kernel_rfl) (Xg.opx_pure (.bool (decide (((σ.regs 11) : Int) ≤ ((166 : Int))))) rfl (fun _ => by kernel_rfl) ?_)
    refine Xg.ops_flag (j := 29) (c := (decide (σ.regs 11 ≤ (166 : Int)))) (by kernel_rfl) (fun xh2 => absurd (of_decide_eq_true xh2) (by omega)) (fun _ => ?_)
    refine Xg.ops_op (by kernel_rfl) (Xg.opx_pure ((Value.bool false)) rfl (fun _ => by kernel_rfl) ?_)
    refine Xg.ops_op (by kernel_rfl) (Xg.opx_pure ((Value.bool false)) rfl (fun _ => by kernel_rfl) ?_)
    refine Xg.ops_nil ?_
    refine Xg.at_seq ?_
    refine Xg.at_region ?_
    refine Xg.ops_op (by kernel_rfl) (Xg.opx_pure ((pv p 0)) rfl (fun _ => by kernel_rfl) ?_)
    refine Xg.ops_op (by kernel_rfl) (Xg.opx_pure ((iv (σ.regs 4))) rfl (fun _ => by kernel_rfl) ?_)
    refine Xg.ops_op (by kernel_rfl) (Xg.opx_callE' [0] (fun xx1 => [recsO (105 : Nat) (4 : Nat) sprC xx1.fst xx1.snd L, PpR p σ]) (fun _ => by kernel_rfl) (@hsp ) (by kernel_rfl) (by kernel_rfl) (by kernel_rfl) fun xx1 xh2 => ?_)
    try dsimp only at xh2
    refine Xg.ops_op (by kernel_rfl) (Xg.opx_pure ((Value.slice xx1.fst L.length xx1.snd)) rfl (fun _ => by kernel_rfl) ?_)
    refine Xg.ops_nil ?_
    refine Xg.at_seq ?_
    refine Xg.at_seq ?_
    refine Xg.at_region ?_
    refine Xg.ops_op (by kernel_rfl) (Xg.opx_pure ((iv 0)) rfl (fun _ => by kernel_rfl) ?_)
    refine Xg.ops_nil ?_
    refine Xg.at_block ?_
    rotate_left
    refine Xg.ops_op (by kernel_rfl) (Xg.opx_pure ((Value.bool false)) rfl (fun _ => by kernel_rfl) ?_)
    refine Xg.ops_op (by kernel_rfl) (Xg.opx_pure ((Value.bool false)) rfl (fun _ => by kernel_rfl) ?_)
    refine Xg.ops_skip (by kernel_rfl) ?_
    refine Xg.ops_skip (by kernel_rfl) ?_
    refine Xg.ops_skip (by kernel_rfl) ?_
    refine Xg.ops_skip (by kernel_rfl) ?_
    refine Xg.ops_skip (by kernel_rfl) ?_
    refine Xg.ops_skip (by kernel_rfl) ?_
    refine Xg.ops_op (by kernel_rfl) (Xg.opx_pure ((Value.bool false)) rfl (fun _ => by kernel_rfl) ?_)
    refine Xg.ops_op (by kernel_rfl) (Xg.opx_pure ((Value.bool false)) rfl (fun _ => by kernel_rfl) ?_)
    refine Xg.ops_nil ?_
    refine Xg.at_seq ?_
    refine Xg.at_region ?_
    refine Xg.ops_op (by kernel_rfl) (Xg.opx_pure ((pv p 0)) rfl (fun _ => by kernel_rfl) ?_)
    refine Xg.ops_op (by kernel_rfl) (Xg.opx_pure ((iv (σ.regs 4))) rfl (fun _ => by kernel_rfl) ?_)
    refine Xg.ops_op (by kernel_rfl) (Xg.opx_callE' [0] (fun xx1 => [recsO (105 : Nat) (4 : Nat) sprC xx1.fst xx1.snd L, PpR p σ]) (fun _ => by kernel_rfl) (@hsp ) (by kernel_rfl) (by kernel_rfl) (by kernel_rfl) fun xx1 xh2 => ?_)
    try dsimp only at xh2
    refine Xg.ops_op (by kernel_rfl) (Xg.opx_pure ((Value.slice xx1.fst L.length xx1.snd)) rfl (fun _ => by kernel_rfl) ?_)
    refine Xg.ops_nil ?_
    refine Xg.at_seq ?_
    refine Xg.at_seq ?_
    refine Xg.at_region ?_
    refine Xg.ops_op (by kernel_rfl) (Xg.opx_pure ((iv 0)) rfl (fun _ => by kernel_rfl) ?_)
    refine Xg.ops_nil ?_
    refine Xg.at_block ?_)
  all_goals first | (have e : σ.seen = false := (by assumption); exact absurd (b9.symm.trans e) (by decide)) | skip
  (focus
    refine Xg.at_rounds_inv (α := (Nat × (Nat → Int)) × (Nat → Value)) (fun x => ((fun k => k.1 ≤ 160 ∧ k.2 = drawF σ L k.1) : (Nat × (Nat → Int)) → Prop) x.1) (fun x => ((fun k => 160 - k.1) : (Nat × (Nat → Int)) → Nat) x.1) (fun x => Xg.headT [pv p 0, tu, iv (σ.regs 4), Value.bool false, Value.slice xx1.fst L.length xx1.snd, tu, tu, tu, tu, tu, pv p 0, pv p 0, pv p 0, pv p 4, iv (σ.regs 4), pv p 0, Value.bool true, Value.bool true, pv p 0, pv p 0, pv p 8365, Value.bool true, Value.bool true, Value.bool true, pv p 0, pv p 0, pv p 0, pv p 11, iv (σ.regs 11), Value.bool false, Value.bool false, pv p 0, iv (σ.regs 4), Value.slice xx1.fst L.length xx1.snd, iv 0, tu, tu, tu, tu, tu, tu, tu, tu, tu, tu, tu, tu, tu, tu, tu, tu, tu, tu, tu, tu, tu, tu, tu, tu, tu, tu, tu, tu, tu, tu, tu, tu, tu, tu, tu, tu, tu, tu, tu, tu, tu, tu, tu, tu, tu, tu, tu, tu, tu, tu, tu, tu, tu, tu, tu, tu, tu, tu, tu, tu, tu, tu, tu, tu, tu, tu, tu, tu, tu, tu, tu, tu, tu, tu, tu, tu, tu, tu, tu, tu, tu, tu, tu, tu, tu, tu, tu, tu, tu, tu, tu, tu, tu, tu, tu, tu, tu, tu, tu, tu, tu, tu, tu] [5, 6, 7, 8, 9, 35, 36, 37, 38, 39, 40, 41, 42, 43, 44, 45, 46, 47, 48, 49, 50, 51, 52, 53, 54, 55, 56, 57, 58, 59, 60, 61, 62, 63, 64, 65, 66, 67, 68, 69, 70, 71, 72, 73, 74, 75, 76, 77, 78, 79, 80, 81, 82, 83, 84, 85, 86, 87, 88, 89, 90, 91, 92, 93, 94, 95, 96, 97, 98, 99, 100, 101, 102, 103, 104, 105, 106, 107, 108, 109, 110, 111, 112, 113, 114, 115, 116, 117, 118, 119, 120, 121, 122, 123, 124, 125, 126, 127, 128, 129] (((fun k => [(34, .int .i64 (k.1 : Nat))]) : (Nat × (Nat → Int)) → List (Nat × Go.Value)) x.1) x.2) (fun x => ((fun k => [recsO 105 4 sprC xx1.1 xx1.2 L, PpR p { σ with now := k.2 }]) : (Nat × (Nat → Int)) → List Go.Sl.HP) x.1) (((0, σ.now)), fun j => ([pv p 0, tu, iv (σ.regs 4), Value.bool false, Value.slice xx1.fst L.length xx1.snd, tu, tu, tu, tu, tu, pv p 0, pv p 0, pv p 0, pv p 4, iv (σ.regs 4), pv p 0, Value.bool true, Value.bool true, pv p 0, pv p 0, pv p 8365, Value.bool true, Value.bool true, Value.bool true, pv p 0, pv p 0, pv p 0, pv p 11, iv (σ.regs 11), Value.bool false, Value.bool false, pv p 0, iv (σ.regs 4), Value.slice xx1.fst L.length xx1.snd, iv 0, tu, tu, tu, tu, tu, tu, tu, tu, tu, tu, tu, tu, tu, tu, tu, tu, tu, tu, tu, tu, tu, tu, tu, tu, tu, tu, tu, tu, tu, tu, tu, tu, tu, tu, tu, tu, tu, tu, tu, tu, tu, tu, tu, tu, tu, tu, tu, tu, tu, tu, tu, tu, tu, tu, tu, tu, tu, tu, tu, tu, tu, tu, tu, tu, tu, tu, tu, tu, tu, tu, tu, tu, tu, tu, tu, tu, tu, tu, tu, tu, tu, tu, tu, tu, tu, tu, tu, tu, tu, tu, tu, tu, tu, tu, tu, tu, tu, tu, tu, tu, tu, tu, tu] : List Value).getD j undef) (by kernel_rfl) (by kernel_rfl) ?_ ?_)
  · exact ⟨Nat.zero_le _, (drawF_0 σ L).symm⟩
  rintro ⟨⟨k, f⟩, J⟩ ⟨hk, hf⟩ ih
  dsimp only at hk hf
  (focus
    refine Xg.At.same (T' := [pv p 0, tu, iv (σ.regs 4), Value.bool false, Value.slice xx1.fst L.length xx1.snd, J 5, J 6, J 7, J 8, J 9, pv p 0, pv p 0, pv p 0, pv p 4, iv (σ.regs 4), pv p 0, Value.bool true, Value.bool true, pv p 0, pv p 0, pv p 8365, Value.bool true, Value.bool true, Value.bool true, pv p 0, pv p 0, pv p 0, pv p 11, iv (σ.regs 11), Value.bool false, Value.bool false, pv p 0, iv (σ.regs 4), Value.slice xx1.fst L.length xx1.snd, iv (↑k : Int), J 35, J 36, J 37, J 38, J 39, J 40, J 41, J 42, J 43, J 44, J 45, J 46, J 47, J 48, J 49, J 50, J 51, J 52, J 53, J 54, J 55, J 56, J 57, J 58, J 59, J 60, J 61, J 62, J 63, J 64, J 65, J 66, J 67, J 68, J 69, J 70, J 71, J 72, J 73, J 74, J 75, J 76, J 77, J 78, J 79, J 80, J 81, J 82, J 83, J 84, J 85, J 86, J 87, J 88, J 89, J 90, J 91, J 92, J 93, J 94, J 95, J 96, J 97, J 98, J 99, J 100, J 101, J 102, J 103, J 104, J 105, J 106, J 107, J 108, J 109, J 110, J 111, J 112, J 113, J 114, J 115, J 116, J 117, J 118, J 119, J 120, J 121, J 122, J 123, J 124, J 125, J 126, J 127, J 128, J 129, tu, tu, tu, tu, tu, tu, tu, tu]) (L' := [recsO (105 : Nat) (4 : Nat) sprC xx1.fst xx1.snd L, PpR p (Pp.mk σ.regs σ.vram σ.oam σ.clock σ.seen σ.rows ((k, f), J).fst.snd σ.last)]) (by kernel_rfl) rfl ?_)
  by_cases hlt : k < 160
  · have hfb := drawF_bd hσ L k
    have hsucc := drawF_succ σ L k h4.1
    rw [← hf] at hfb hsucc
    have hfin : ∀ c, c = pixI σ L k → upd f (160 * σ.regs 4 + (k : Int)).toNat c = drawF σ L (k + 1) := fun c e => by
      rw [hsucc, e, show (160 * σ.regs 4 + (k : Int)).toNat = 160 * (σ.regs 4).toNat + k from by omega]
    have hpix : ∀ (n c : Int) (o : Spr × Int), n = groundI σ k → o = overI σ (σ.regs 4) k L → c = mixI σ n o → c = pixI σ L k := fun n c o e1 e2 e3 => by rw [e3, e1, e2]; rfl
    have hb1 := band_255 (σ.regs 4 + σ.regs 2)
    have hb2 := band_255 ((k : Int) + σ.regs 3)
    have hov := over_n p σ f hσ hfb xx1.1 xx1.2 L hL10 (σ.regs 4) k h4 (by omega) hLk
    have hti := fun high row col => tile_n p σ f hσ hfb high row col
    have hco := fun r n => colour_n p σ f hσ hfb r n
    (focus
      refine Xg.at_seq ?_
      refine Xg.at_region ?_
      refine Xg.ops_op (by kernel_rfl) (Xg.opx_pure (.bool (decide ((((↑k : Int)) : Int) < ((160 : Int))))) rfl (fun _ => by kernel_rfl) ?_)
      refine Xg.ops_nil ?_
      refine Xg.at_seq ?_
      refine Xg.at_true (t := decide (((↑k : Int) < (160 : Int)))) (by kernel_rfl) (decide_eq_true (by omega)) ?_
      refine Xg.at_skip ?_
      refine Xg.at_seq ?_
      refine Xg.at_block ?_
      refine Xg.at_seq ?_
      refine Xg.at_region ?_
      refine Xg.ops_op (by kernel_rfl) (Xg.opx_pure ((iv (↑k : Int))) rfl (fun _ => by kernel_rfl) ?_)
      refine Xg.ops_op (by kernel_rfl) (Xg.opx_pure ((iv (↑k : Int))) rfl (fun _ => by kernel_rfl) ?_)
      refine Xg.ops_nil ?_
      refine Xg.at_seq ?_
      refine Xg.at_region ?_
      refine Xg.ops_op (by kernel_rfl) (Xg.opx_pure ((iv 0)) rfl (fun _ => by kernel_rfl) ?_)
      refine Xg.ops_nil ?_
      refine Xg.at_seq ?_
      refine Xg.at_block ?_
      refine Xg.at_seq ?_
      refine Xg.at_region ?_
      refine Xg.ops_op (by kernel_rfl) (Xg.opx_pure ((pv p 0)) rfl (fun _ => by kernel_rfl) ?_)
      refine Xg.ops_op (by kernel_rfl) (Xg.opx_call1' [1] [PpR p (Pp.mk σ.regs σ.vram σ.oam σ.clock σ.seen σ.rows f σ.last), recsO (105 : Nat) (4 : Nat) sprC xx1.fst xx1.snd L] (fun _ => by kernel_rfl) (@h0c (f)) (by kernel_rfl) (by kernel_rfl) (by kernel_rfl) ?_)
      refine Xg.ops_op (by kernel_rfl) (Xg.opx_pure (.bool true) rfl (fun _ => by kernel_rfl) ?_)
      refine Xg.ops_op (by kernel_rfl) (Xg.opx_pure ((Value.bool true)) rfl (fun _ => by kernel_rfl) ?_)
      refine Xg.ops_nil ?_
      refine Xg.at_true (t := true) (by kernel_rfl) rfl ?_
      refine Xg.at_skip ?_
      refine Xg.at_inBlock ?_
      refine Xg.at_seq ?_
      refine Xg.at_region ?_
      refine Xg.ops_op (by kernel_rfl) (Xg.opx_pure ((pv p 0)) rfl (fun _ => by kernel_rfl) ?_)
      refine Xg.ops_op (by kernel_rfl) (Xg.opx_pure ((iv 0)) rfl (fun _ => by kernel_rfl) ?_)
      refine Xg.ops_op (by kernel_rfl) (Xg.opx_callE' [0] (fun xx2 => [PpR p (Pp.mk σ.regs σ.vram σ.oam σ.clock σ.seen σ.rows f σ.last), recsO (105 : Nat) (4 : Nat) sprC xx1.fst xx1.snd L]) (fun _ => by kernel_rfl) (@hco (((7 : Int))) (((0 : Int))) (by omega) (by omega)) (by kernel_rfl) (by kernel_rfl) (by kernel_rfl) fun xx2 xh3 => ?_)
      try dsimp only at xh3
      obtain ⟨xh3_0, xh3_1, xh3_2⟩ := xh3
      refine Xg.ops_op (by kernel_rfl) (Xg.opx_pure ((uv xx2)) rfl (fun _ => by kernel_rfl) ?_)
      refine Xg.ops_nil ?_
      refine Xg.at_seq ?_
      refine Xg.at_seq ?_
      refine Xg.at_region ?_
      refine Xg.ops_op (by kernel_rfl) (Xg.opx_pure ((pv p 0)) rfl (fun _ => by kernel_rfl) ?_)
      refine Xg.ops_op (by kernel_rfl) (Xg.opx_pure ((Value.slice xx1.fst L.length xx1.snd)) rfl (fun _ => by kernel_rfl) ?_)
      refine Xg.ops_op (by kernel_rfl) (Xg.opx_pure ((iv (σ.regs 4))) rfl (fun _ => by kernel_rfl) ?_)
      refine Xg.ops_op (by kernel_rfl) (Xg.opx_pure ((iv (↑k : Int))) rfl (fun _ => by kernel_rfl) ?_)
      refine Xg.ops_op (by kernel_rfl) (Xg.opx_callE' [1, 0] (fun xx3 => [recsO (105 : Nat) (4 : Nat) sprC xx1.fst xx1.snd L, PpR p (Pp.mk σ.regs σ.vram σ.oam σ.clock σ.seen σ.rows f σ.last)]) (fun _ => by kernel_rfl) (@hov ) (by kernel_rfl) (by kernel_rfl) (by kernel_rfl) fun xx3 xh4 => ?_)
      try dsimp only at xh4
      obtain ⟨xh4_0, xh4_1, xh4_2, xh4_3, xh4_4⟩ := xh4
      refine Xg.ops_op (by kernel_rfl) (Xg.opx_pure ((Value.tuple #[Value.agg #[iv xx3.fst.row, iv xx3.fst.column, iv xx3.fst.tile, iv xx3.fst.flags], iv xx3.snd])) rfl (fun _ => by kernel_rfl) ?_)
      refine Xg.ops_op (by kernel_rfl) (Xg.opx_pure ((Value.agg #[iv xx3.fst.row, iv xx3.fst.column, iv xx3.fst.tile, iv xx3.fst.flags])) rfl (fun _ => by kernel_rfl) ?_)
      refine Xg.ops_op (by kernel_rfl) (Xg.opx_pure ((iv xx3.snd)) rfl (fun _ => by kernel_rfl) ?_)
      refine Xg.ops_op (by kernel_rfl) (Xg.opx_new 4 [iv 0, iv 0, iv 0, iv 0] (by kernel_rfl) (by kernel_rfl) fun xb1 => ?_)
      refine Xg.ops_op (by kernel_rfl) (Xg.opx_storen 4 (off := 0) 0 [iv xx3.fst.row, iv xx3.fst.column, iv xx3.fst.tile, iv xx3.fst.flags] (by kernel_rfl) rfl (by kernel_rfl) (by kernel_rfl) rfl (by kernel_rfl) (Nat.le_of_ble_eq_true (by kernel_rfl)) ?_)
      refine Xg.ops_op (by kernel_rfl) (Xg.opx_pure ((iv xx3.snd)) rfl (fun _ => by kernel_rfl) ?_)
      refine Xg.ops_nil ?_
      refine Xg.at_seq ?_
      refine Xg.at_region ?_
      refine Xg.ops_op (by kernel_rfl) (Xg.opx_pure ((iv xx3.snd)) rfl (fun _ => by kernel_rfl) ?_)
      refine Xg.ops_op (by kernel_rfl) (Xg.opx_pure (.bool (decide ((xx3.snd : Int) > ((0 : Int))))) rfl (fun _ => by kernel_rfl) ?_)
      refine Xg.ops_op (by kernel_rfl) (Xg.opx_pure ((Value.bool (decide (xx3.snd > (0 : Int))))) rfl (fun _ => by kernel_rfl) ?_)
      refine Xg.ops_flag (j := 102) (c := (decide (xx3.snd > (0 : Int)))) (by kernel_rfl) (fun xh5 => ?_) (fun xh5 => ?_)
      replace xh5 : (xx3.snd > (0 : Int)) := of_decide_eq_true xh5
      rotate_left
      replace xh5 : ¬ ((xx3.snd > (0 : Int))) := of_decide_eq_false xh5
      rotate_right
      refine Xg.ops_op (by kernel_rfl) (Xg.opx_pure ((pv xb1 3)) rfl (fun _ => by kernel_rfl) ?_)
      refine Xg.ops_op (by kernel_rfl) (Xg.opx_load (b := xb1) (off := ((3 : Nat))) 0 (iv xx3.fst.flags) rfl (by kernel_rfl) (by kernel_rfl) (by kernel_rfl) ?_)
      refine Xg.ops_op (by kernel_rfl) (Xg.opx_pure (.int .i64 (Xg.band .i64 (xx3.fst.flags) (((128 : Int))))) rfl (fun _ => by kernel_rfl) ?_)
      refine Xg.ops_op (by kernel_rfl) (Xg.opx_pure (.bool (decide (((band IntKind.i64 xx3.fst.flags (128 : Int)) : Int) = ((0 : Int))))) rfl (fun _ => by kernel_rfl) ?_)
      refine Xg.ops_op (by kernel_rfl) (Xg.opx_pure ((Value.bool (decide (band IntKind.i64 xx3.fst.flags (128 : Int) = (0 : Int))))) rfl (fun _ => by kernel_rfl) ?_)
      refine Xg.ops_flag (j := 107) (c := (decide (band IntKind.i64 xx3.fst.flags (128 : Int) = (0 : Int)))) (by kernel_rfl) (fun xh6 => ?_) (fun xh6 => ?_)
      replace xh6 : (band IntKind.i64 xx3.fst.flags (128 : Int) = (0 : Int)) := of_decide_eq_true xh6
      rotate_left
      replace xh6 : ¬ ((band IntKind.i64 xx3.fst.flags (128 : Int) = (0 : Int))) := of_decide_eq_false xh6
      rotate_right
      refine Xg.ops_skip (by kernel_rfl) ?_
      refine Xg.ops_skip (by kernel_rfl) ?_
      refine Xg.ops_op (by kernel_rfl) (Xg.opx_pure ((Value.bool true)) rfl (fun _ => by kernel_rfl) ?_)
      refine Xg.ops_op (by kernel_rfl) (Xg.opx_pure ((Value.bool true)) rfl (fun _ => by kernel_rfl) ?_)
      refine Xg.ops_nil ?_
      refine Xg.at_true (t := true) (by kernel_rfl) rfl ?_
      refine Xg.at_region ?_
      refine Xg.ops_op (by kernel_rfl) (Xg.opx_pure ((pv p 0)) rfl (fun _ => by kernel_rfl) ?_)
      refine Xg.ops_op (by kernel_rfl) (Xg.opx_pure ((pv xb1 3)) rfl (fun _ => by kernel_rfl) ?_)
      refine Xg.ops_op (by kernel_rfl) (Xg.opx_load (b := xb1) (off := ((3 : Nat))) 0 (iv xx3.fst.flags) rfl (by kernel_rfl) (by kernel_rfl) (by kernel_rfl) ?_)
      refine Xg.ops_op (by kernel_rfl) (Xg.opx_int .i64 (Int.fdiv (xx3.fst.flags) 16) rfl (fun _ => by kernel_rfl) (Xg.shr_div _ 16 (by decide)) ?_)
      refine Xg.ops_op (by kernel_rfl) (Xg.opx_pure (.int .i64 (Xg.band .i64 ((xx3.fst.flags / (16 : Int))) (((1 : Int))))) rfl (fun _ => by kernel_rfl) ?_)
      refine Xg.ops_op (by kernel_rfl) (Xg.opx_int .i64 (IntKind.wrap .i64 (((8 : Int) + band IntKind.i64 (xx3.fst.flags / (16 : Int)) (1 : Int)))) rfl (fun _ => by kernel_rfl) (Xg.wrap_i64_in (by omega)) ?_)
      refine Xg.ops_op (by kernel_rfl) (Xg.opx_pure ((iv xx3.snd)) rfl (fun _ => by kernel_rfl) ?_)
      refine Xg.ops_op (by kernel_rfl) (Xg.opx_callE' [2] (fun xx4 => [PpR p (Pp.mk σ.regs σ.vram σ.oam σ.clock σ.seen σ.rows f σ.last), row xb1 (105 : Nat) [iv xx3.fst.row, iv xx3.fst.column, iv xx3.fst.tile, iv xx3.fst.flags], recsO (105 : Nat) (4 : Nat) sprC xx1.fst xx1.snd L]) (fun _ => by kernel_rfl) (@hco (((8 : Int) + band IntKind.i64 (xx3.fst.flags / (16 : Int)) (1 : Int))) (xx3.snd) (by omega) (by omega)) (by kernel_rfl) (by kernel_rfl) (by kernel_rfl) fun xx4 xh7 => ?_)
      try dsimp only at xh7
      obtain ⟨xh7_0, xh7_1, xh7_2⟩ := xh7
      refine Xg.ops_op (by kernel_rfl) (Xg.opx_pure ((uv xx4)) rfl (fun _ => by kernel_rfl) ?_)
      refine Xg.ops_nil ?_
      refine Xg.at_region ?_
      refine Xg.ops_op (by kernel_rfl) (Xg.opx_pure ((pv p 0)) rfl (fun _ => by kernel_rfl) ?_)
      refine Xg.ops_op (by kernel_rfl) (Xg.opx_pure ((iv (σ.regs 4))) rfl (fun _ => by kernel_rfl) ?_)
      refine Xg.ops_op (by kernel_rfl) (Xg.opx_int .i64 (IntKind.wrap .i64 (((160 : Int) * σ.regs 4))) rfl (fun _ => by kernel_rfl) (Xg.wrap_i64_in (by omega)) ?_)
      refine Xg.ops_op (by kernel_rfl) (Xg.opx_pure ((iv (↑k : Int))) rfl (fun _ => by kernel_rfl) ?_)
      refine Xg.ops_op (by kernel_rfl) (Xg.opx_int .i64 (IntKind.wrap .i64 (((160 : Int) * σ.regs 4 + (↑k : Int)))) rfl (fun _ => by kernel_rfl) (Xg.wrap_i64_in (by omega)) ?_)
      refine Xg.ops_op (by kernel_rfl) (Xg.opx_pure ((uv xx4)) rfl (fun _ => by kernel_rfl) ?_)
      refine Xg.ops_op (by kernel_rfl) (Xg.opx_pure ((pv p 0)) rfl (fun _ => by kernel_rfl) ?_)
      refine Xg.ops_op (by kernel_rfl) (Xg.opx_pure ((pv p 8367)) rfl (fun _ => by kernel_rfl) ?_)
      refine Xg.ops_op (by kernel_rfl) (Xg.opx_run (.pointer (some (Addr.mk p ((8367 : Nat) + ((160 : Int) * σ.regs 4 + (↑k : Int)).toNat) none))) rfl (Xg.run_ix_array' (elem := 5) (len := 23040) (b := p) (off := ((8367 : Nat))) (kd := .i64) (e := ((160 : Int) * σ.regs 4 + (↑k : Int))) 1 (((160 : Int) * σ.regs 4 + (↑k : Int)).toNat) ((8367 : Nat) + ((160 : Int) * σ.regs 4 + (↑k : Int)).toNat) (by kernel_rfl) (by kernel_rfl) (by kernel_rfl) (by kernel_rfl) (by omega) (by omega) (by omega)) ?_)
      refine Xg.ops_op (by kernel_rfl) (Xg.opx_store_c (off := ((8367 : Nat) + ((160 : Int) * σ.regs 4 + (↑k : Int)).toNat)) (cs' := (ppc (Pp.mk σ.regs σ.vram σ.oam σ.clock σ.seen σ.rows (upd f ((160 : Int) * σ.regs 4 + (↑k : Int)).toNat xx4) σ.last))) 0 (uv xx4) (by kernel_rfl) rfl (by kernel_rfl) (by kernel_rfl) (by kernel_rfl) (@Go.Proofs.Ytkfclamiendamaa.s_now ((Pp.mk σ.regs σ.vram σ.oam σ.clock σ.seen σ.rows f σ.last)) ((((160 : Int) * σ.regs 4 + (↑k : Int)).toNat)) (xx4) (by omega)) ?_)
      refine Xg.ops_nil ?_
      refine Xg.at_inBlock ?_
      refine Xg.at_region ?_
      refine Xg.ops_op (by kernel_rfl) (Xg.opx_int .i64 (IntKind.wrap .i64 (((↑k : Int) + (1 : Int)))) rfl (fun _ => by kernel_rfl) (Xg.wrap_i64_in (by omega)) ?_)
      refine Xg.ops_op (by kernel_rfl) (Xg.opx_pure ((iv ((↑k : Int) + (1 : Int)))) rfl (fun _ => by kernel_rfl) ?_)
      refine Xg.ops_nil ?_
      refine Xg.at_inLoop ?_
      rotate_left
      refine Xg.ops_op (by kernel_rfl) (Xg.opx_pure ((iv 0)) rfl (fun _ => by kernel_rfl) ?_)
      refine Xg.ops_op (by kernel_rfl) (Xg.opx_pure ((Value.bool true)) rfl (fun _ => by kernel_rfl) ?_)
      refine Xg.ops_op (by kernel_rfl) (Xg.opx_pure ((Value.bool true)) rfl (fun _ => by kernel_rfl) ?_)
      refine Xg.ops_op (by kernel_rfl) (Xg.opx_pure ((Value.bool true)) rfl (fun _ => by kernel_rfl) ?_)
      refine Xg.ops_nil ?_
      refine Xg.at_true (t := true) (by kernel_rfl) rfl ?_
      refine Xg.at_region ?_
      refine Xg.ops_op (by kernel_rfl) (Xg.opx_pure ((pv p 0)) rfl (fun _ => by kernel_rfl) ?_)
      refine Xg.ops_op (by kernel_rfl) (Xg.opx_pure ((pv xb1 3)) rfl (fun _ => by kernel_rfl) ?_)
      refine Xg.ops_op (by kernel_rfl) (Xg.opx_load (b := xb1) (off := ((3 : Nat))) 0 (iv xx3.fst.flags) rfl (by kernel_rfl) (by kernel_rfl) (by kernel_rfl) ?_)
      refine Xg.ops_op (by kernel_rfl) (Xg.opx_int .i64 (Int.fdiv (xx3.fst.flags) 16) rfl (fun _ => by kernel_rfl) (Xg.shr_div _ 16 (by decide)) ?_)
      refine Xg.ops_op (by kernel_rfl) (Xg.opx_pure (.int .i64 (Xg.band .i64 ((xx3.fst.flags / (16 : Int))) (((1 : Int))))) rfl (fun _ => by kernel_rfl) ?_)
      refine Xg.ops_op (by kernel_rfl) (Xg.opx_int .i64 (IntKind.wrap .i64 (((8 : Int) + band IntKind.i64 (xx3.fst.flags / (16 : Int)) (1 : Int)))) rfl (fun _ => by kernel_rfl) (Xg.wrap_i64_in (by omega)) ?_)
      refine Xg.ops_op (by kernel_rfl) (Xg.opx_pure ((iv xx3.snd)) rfl (fun _ => by kernel_rfl) ?_)
      refine Xg.ops_op (by kernel_rfl) (Xg.opx_callE' [2] (fun xx4 => [PpR p (Pp.mk σ.regs σ.vram σ.oam σ.clock σ.seen σ.rows f σ.last), row xb1 (105 : Nat) [iv xx3.fst.row, iv xx3.fst.column, iv xx3.fst.tile, iv xx3.fst.flags], recsO (105 : Nat) (4 : Nat) sprC xx1.fst xx1.snd L]) (fun _ => by kernel_rfl) (@hco (((8 : Int) + band IntKind.i64 (xx3.fst.flags / (16 : Int)) (1 : Int))) (xx3.snd) (by omega) (by omega)) (by kernel_rfl) (by kernel_rfl) (by kernel_rfl) fun xx4 xh7 => ?_)
      try dsimp only at xh7
      obtain ⟨xh7_0, xh7_1, xh7_2⟩ := xh7
      refine Xg.ops_op (by kernel_rfl) (Xg.opx_pure ((uv xx4)) rfl (fun _ => by kernel_rfl) ?_)
      refine Xg.ops_nil ?_
      refine Xg.at_region ?_
      refine Xg.ops_op (by kernel_rfl) (Xg.opx_pure ((pv p 0)) rfl (fun _ => by kernel_rfl) ?_)
      refine Xg.ops_op (by kernel_rfl) (Xg.opx_pure ((iv (σ.regs 4))) rfl (fun _ => by kernel_rfl) ?_)
      refine Xg.ops_op (by kernel_rfl) (Xg.opx_int .i64 (IntKind.wrap .i64 (((160 : Int) * σ.regs 4))) rfl (fun _ => by kernel_rfl) (Xg.wrap_i64_in (by omega)) ?_)
      refine Xg.ops_op (by kernel_rfl) (Xg.opx_pure ((iv (↑k : Int))) rfl (fun _ => by kernel_rfl) ?_)
      refine Xg.ops_op (by kernel_rfl) (Xg.opx_int .i64 (IntKind.wrap .i64 (((160 : Int) * σ.regs 4 + (↑k : Int)))) rfl (fun _ => by kernel_rfl) (Xg.wrap_i64_in (by omega)) ?_)
      refine Xg.ops_op (by kernel_rfl) (Xg.opx_pure ((uv xx4)) rfl (fun _ => by kernel_rfl) ?_)
      refine Xg.ops_op (by kernel_rfl) (Xg.opx_pure ((pv p 0)) rfl (fun _ => by kernel_rfl) ?_)
      refine Xg.ops_op (by kernel_rfl) (Xg.opx_pure ((pv p 8367)) rfl (fun _ => by kernel_rfl) ?_)
      refine Xg.ops_op (by kernel_rfl) (Xg.opx_run (.pointer (some (Addr.mk p ((8367 : Nat) + ((160 : Int) * σ.regs 4 + (↑k : Int)).toNat) none))) rfl (Xg.run_ix_array' (elem := 5) (len := 23040) (b := p) (off := ((8367 : Nat))) (kd := .i64) (e := ((160 : Int) * σ.regs 4 + (↑k : Int))) 1 (((160 : Int) * σ.regs 4 + (↑k : Int)).toNat) ((8367 : Nat) + ((160 : Int) * σ.regs 4 + (↑k : Int)).toNat) (by kernel_rfl) (by kernel_rfl) (by kernel_rfl) (by kernel_rfl) (by omega) (by omega) (by omega)) ?_)
      refine Xg.ops_op (by kernel_rfl) (Xg.opx_store_c (off := ((8367 : Nat) + ((160 : Int) * σ.regs 4 + (↑k : Int)).toNat)) (cs' := (ppc (Pp.mk σ.regs σ.vram σ.oam σ.clock σ.seen σ.rows (upd f ((160 : Int) * σ.regs 4 + (↑k : Int)).toNat xx4) σ.last))) 0 (uv xx4) (by kernel_rfl) rfl (by kernel_rfl) (by kernel_rfl) (by kernel_rfl) (@Go.Proofs.Ytkfclamiendamaa.s_now ((Pp.mk σ.regs σ.vram σ.oam σ.clock σ.seen σ.rows f σ.last)) ((((160 : Int) * σ.regs 4 + (↑k : Int)).toNat)) (xx4) (by omega)) ?_)
      refine Xg.ops_nil ?_
      refine Xg.at_inBlock ?_
      refine Xg.at_region ?_
      refine Xg.ops_op (by kernel_rfl) (Xg.opx_int .i64 (IntKind.wrap .i64 (((↑k : Int) + (1 : Int)))) rfl (fun _ => by kernel_rfl) (Xg.wrap_i64_in (by omega)) ?_)
      refine Xg.ops_op (by kernel_rfl) (Xg.opx_pure ((iv ((↑k : Int) + (1 : Int)))) rfl (fun _ => by kernel_rfl) ?_)
      refine Xg.ops_nil ?_
      refine Xg.at_inLoop ?_
      rotate_left
      refine Xg.ops_skip (by kernel_rfl) ?_
      refine Xg.ops_skip (by kernel_rfl) ?_
      refine Xg.ops_skip (by kernel_rfl) ?_
      refine Xg.ops_skip (by kernel_rfl) ?_
      refine Xg.ops_skip (by kernel_rfl) ?_
      refine Xg.ops_skip (by kernel_rfl) ?_
      refine Xg.ops_skip (by kernel_rfl) ?_
      refine Xg.ops_skip (by kernel_rfl) ?_
      refine Xg.ops_op (by kernel_rfl) (Xg.opx_pure ((Value.bool false)) rfl (fun _ => by kernel_rfl) ?_)
      refine Xg.ops_nil ?_
      refine Xg.at_false (t := false) (by kernel_rfl) rfl ?_
      refine Xg.at_skip ?_
      refine Xg.at_region ?_
      refine Xg.ops_op (by kernel_rfl) (Xg.opx_pure ((pv p 0)) rfl (fun _ => by kernel_rfl) ?_)
      refine Xg.ops_op (by kernel_rfl) (Xg.opx_pure ((iv (σ.regs 4))) rfl (fun _ => by kernel_rfl) ?_)
      refine Xg.ops_op (by kernel_rfl) (Xg.opx_int .i64 (IntKind.wrap .i64 (((160 : Int) * σ.regs 4))) rfl (fun _ => by kernel_rfl) (Xg.wrap_i64_in (by omega)) ?_)
      refine Xg.ops_op (by kernel_rfl) (Xg.opx_pure ((iv (↑k : Int))) rfl (fun _ => by kernel_rfl) ?_)
      refine Xg.ops_op (by kernel_rfl) (Xg.opx_int .i64 (IntKind.wrap .i64 (((160 : Int) * σ.regs 4 + (↑k : Int)))) rfl (fun _ => by kernel_rfl) (Xg.wrap_i64_in (by omega)) ?_)
      refine Xg.ops_op (by kernel_rfl) (Xg.opx_pure ((uv xx2)) rfl (fun _ => by kernel_rfl) ?_)
      refine Xg.ops_op (by kernel_rfl) (Xg.opx_pure ((pv p 0)) rfl (fun _ => by kernel_rfl) ?_)
      refine Xg.ops_op (by kernel_rfl) (Xg.opx_pure ((pv p 8367)) rfl (fun _ => by kernel_rfl) ?_)
      refine Xg.ops_op (by kernel_rfl) (Xg.opx_run (.pointer (some (Addr.mk p ((8367 : Nat) + ((160 : Int) * σ.regs 4 + (↑k : Int)).toNat) none))) rfl (Xg.run_ix_array' (elem := 5) (len := 23040) (b := p) (off := ((8367 : Nat))) (kd := .i64) (e := ((160 : Int) * σ.regs 4 + (↑k : Int))) 1 (((160 : Int) * σ.regs 4 + (↑k : Int)).toNat) ((8367 : Nat) + ((160 : Int) * σ.regs 4 + (↑k : Int)).toNat) (by kernel_rfl) (by kernel_rfl) (by kernel_rfl) (by kernel_rfl) (by omega) (by omega) (by omega)) ?_)
      refine Xg.ops_op (by kernel_rfl) (Xg.opx_store_c (off := ((8367 : Nat) + ((160 : Int) * σ.regs 4 + (↑k : Int)).toNat)) (cs' := (ppc (Pp.mk σ.regs σ.vram σ.oam σ.clock σ.seen σ.rows (upd f ((160 : Int) * σ.regs 4 + (↑k : Int)).toNat xx2) σ.last))) 2 (uv xx2) (by kernel_rfl) rfl (by kernel_rfl) (by kernel_rfl) (by kernel_rfl) (@Go.Proofs.Ytkfclamiendamaa.s_now ((Pp.mk σ.regs σ.vram σ.oam σ.clock σ.seen σ.rows f σ.last)) ((((160 : Int) * σ.regs 4 + (↑k : Int)).toNat)) (xx2) (by omega)) ?_)
      refine Xg.ops_nil ?_
      refine Xg.at_inBlock ?_
      refine Xg.at_region ?_
      refine Xg.ops_op (by kernel_rfl) (Xg.opx_int .i64 (IntKind.wrap .i64 (((↑k : Int) + (1 : Int)))) rfl (fun _ => by kernel_rfl) (Xg.wrap_i64_in (by omega)) ?_)
      refine Xg.ops_op (by kernel_rfl) (Xg.opx_pure ((iv ((↑k : Int) + (1 : Int)))) rfl (fun _ => by kernel_rfl) ?_)
      refine Xg.ops_nil ?_
      refine Xg.at_inLoop ?_)
    · (focus
        refine Xg.at_keep [1, 2] (by kernel_rfl) ?_
        refine Xs.same ?_ (fun J9 => ih (((k + 1, upd f (160 * σ.regs 4 + (k : Int)).toNat xx2)), J9) ?_ ?_) (by kernel_rfl))
      · rfl
      · exact ⟨by dsimp only; omega, hfin _ (hpix 0 _ xx3 (by unfold groundI; rw [if_neg (by simp [b0])]) (by assumption) (by rw [mixI, if_neg (fun h => by omega)]; exact (show xx2 = palI σ 7 0 from by assumption)))⟩
      · dsimp only; omega
    · (focus
        refine Xg.at_keep [2, 0] (by kernel_rfl) ?_
        refine Xs.same ?_ (fun J9 => ih (((k + 1, upd f (160 * σ.regs 4 + (k : Int)).toNat xx4)), J9) ?_ ?_) (by kernel_rfl))
      · rfl
      · exact ⟨by dsimp only; omega, hfin _ (hpix 0 _ xx3 (by unfold groundI; rw [if_neg (by simp [b0])]) (by assumption) (by rw [mixI, if_pos (by omega), show xx4 = palI σ (8 + band .i64 (xx3.1.flags / 16) 1) xx3.2 from by assumption, show band .i64 (xx3.1.flags / 16) 1 = xx3.1.flags / 16 % 2 from by assumption]))⟩
      · dsimp only; omega
    · (focus
        refine Xg.at_keep [2, 0] (by kernel_rfl) ?_
        refine Xs.same ?_ (fun J9 => ih (((k + 1, upd f (160 * σ.regs 4 + (k : Int)).toNat xx4)), J9) ?_ ?_) (by kernel_rfl))
      · rfl
      · exact ⟨by dsimp only; omega, hfin _ (hpix 0 _ xx3 (by unfold groundI; rw [if_neg (by simp [b0])]) (by assumption) (by rw [mixI, if_pos (by omega), show xx4 = palI σ (8 + band .i64 (xx3.1.flags / 16) 1) xx3.2 from by assumption, show band .i64 (xx3.1.flags / 16) 1 = xx3.1.flags / 16 % 2 from by assumption]))⟩
      · dsimp only; omega
  · clear ih
    have hkn : k = 160 := by omega
    subst hkn
    subst hf
    (focus
      refine Xg.at_seq ?_
      refine Xg.at_region ?_
      refine Xg.ops_op (by kernel_rfl) (Xg.opx_pure ((Value.bool false)) rfl (fun _ => by kernel_rfl) ?_)
      refine Xg.ops_nil ?_
      refine Xg.at_seq ?_
      refine Xg.at_false (t := false) (by kernel_rfl) rfl ?_
      refine Xg.at_exit rfl ?_
      refine Xg.at_seq ?_
      refine Xg.at_region ?_
      refine Xg.ops_op (by kernel_rfl) (Xg.opx_pure ((Value.bool false)) rfl (fun _ => by kernel_rfl) ?_)
      refine Xg.ops_nil ?_
      refine Xg.at_false (t := false) (by kernel_rfl) rfl ?_
      refine Xg.at_skip ?_
      refine Xg.at_end_ps (v := (tu)) [1] [PpR p (Pp.mk σ.regs σ.vram σ.oam σ.clock σ.seen σ.rows (drawF σ L (160 : Nat)) σ.last)] Go.Proofs.Try.func59 (fun _ => by kernel_rfl) (by kernel_rfl) (by kernel_rfl) ?_
      exact ⟨by kernel_rfl, by kernel_rfl⟩)

set_option maxHeartbeats 0 in
theorem draw_a1 (p : Nat) (σ : Pp) (hσ : σ.Wf) (hly : σ.regs 4 < 144) (hrows : σ.rows ≤ 143) (b5 : hasB (σ.regs 0) 5 = false) (b0 : hasB (σ.regs 0) 0 = true) : Does Try.prog 59 [pt p] [PpR p σ] (Ret (.tuple #[]) [PpR p (drawP σ)]) := by
  have h0 := hσ.regs 0
  have h2 := hσ.regs 2
  have h3 := hσ.regs 3
  have h4 := hσ.regs 4
  have h11 := hσ.regs 11
  have hr := hσ.rows
  have hw : winB σ = false := by unfold winB; simp [*]
  obtain ⟨L, hL⟩ : ∃ L, sprL σ (σ.regs 4) = L := ⟨_, rfl⟩
  have hLo := sprL_ok hσ (σ.regs 4)
  rw [hL] at hLo
  obtain ⟨hL10, hLk⟩ := hLo
  have hG : drawP σ = { σ with now := drawF σ L 160, rows := σ.rows } := by
    unfold drawP
    rw [hL, hw]
    rfl
  have hsp := sprites_e p σ hσ L hL
  have h5c : Does Try.prog 74 [pt p, .int .i64 5] [PpR p σ] (Ret (.bool false) [PpR p σ]) := by
    have := has_5 p σ h0
    rwa [b5] at this
  have h0c : ∀ f, Does Try.prog 74 [pt p, .int .i64 0] [PpR p { σ with now := f }] (Ret (.bool true) [PpR p { σ with now := f }]) := fun f => by
    have := has_0 p { σ with now := f } h0
    rwa [show hasB (({ σ with now := f } : Pp).regs 0) 0 = true from b0] at this
  have h3c : ∀ f, Does Try.prog 74 [pt p, .int .i64 3] [PpR p { σ with now := f }] (Ret (.bool (hasB (σ.regs 0) 3)) [PpR p { σ with now := f }]) := fun f => has_3 p { σ with now := f } h0
  have h6c : ∀ f, Does Try.prog 74 [pt p, .int .i64 6] [PpR p { σ with now := f }] (Ret (.bool (hasB (σ.regs 0) 6)) [PpR p { σ with now := f }]) := fun f => has_6 p { σ with now := f } h0
  rw [hG]
  (focus
    refine Xg.spec_of Go.Proofs.Try.func59 rfl Go.Proofs.Try.ntmps59 fun g F => ?_)
  (focus
    refine Xg.at_seq ?_
    refine Xg.at_region ?_
    refine Xg.ops_op (by kernel_rfl) (Xg.opx_pure ((pv p 0)) rfl (fun _ => by kernel_rfl) ?_)
    refine Xg.ops_op (by kernel_rfl) (Xg.opx_pure ((pv p 0)) rfl (fun _ => by kernel_rfl) ?_)
    refine Xg.ops_op (by kernel_rfl) (Xg.opx_pure ((pv p 0)) rfl (fun _ => by kernel_rfl) ?_)
    refine Xg.ops_op (by kernel_rfl) (Xg.opx_pure (pv p 4) rfl (fun _ => by kernel_rfl) ?_)
    refine Xg.ops_op (by kernel_rfl) (Xg.opx_load (b := p) (off := ((4 : Nat))) 0 (iv (σ.regs 4)) rfl (by kernel_rfl) (@Go.Proofs.Ytkfclamiendamaa.g_regs (σ) (((4 : Nat))) (by omega)) (by kernel_rfl) ?_)
    refine Xg.ops_op (by kernel_rfl) (Xg.opx_pure ((iv (σ.regs 4))) rfl (fun _ => by kernel_rfl) ?_)
    refine Xg.ops_nil ?_
    refine Xg.at_seq ?_
    refine Xg.at_region ?_
    refine Xg.ops_op (by kernel_rfl) (Xg.opx_pure ((pv p 0)) rfl (fun _ => by kernel_rfl) ?_)
    refine Xg.ops_op (by kernel_rfl) (Xg.opx_call1' [0] [PpR p σ] (fun _ => by kernel_rfl) (@h5c ) (by kernel_rfl) (by kernel_rfl) (by kernel_rfl) ?_)
    refine Xg.ops_op (by kernel_rfl) (Xg.opx_pure ((Value.bool false)) rfl (fun _ => by kernel_rfl) ?_)
    refine Xg.ops_skip (by kernel_rfl) ?_
    refine Xg.ops_skip (by kernel_rfl) ?_
    refine Xg.ops_skip (by kernel_rfl) ?_
    refine Xg.ops_skip (by kernel_rfl) ?_
    refine Xg.ops_op (by kernel_rfl) (Xg.opx_pure ((Value.bool false)) rfl (fun _ => by kernel_rfl) ?_)
    refine Xg.ops_op (by kernel_rfl) (Xg.opx_pure ((Value.bool false)) rfl (fun _ => by kernel_rfl) ?_)
    refine Xg.ops_skip (by kernel_rfl) ?_
    refine Xg.ops_skip (by kernel_rfl) ?_
    refine Xg.ops_skip (by kernel_rfl) ?_
    refine Xg.ops_skip (by kernel_rfl) ?_
    refine Xg.ops_skip (by kernel_rfl) ?_
    refine Xg.ops_skip (by kernel_rfl) ?_
    refine Xg.ops_op (by kernel_rfl) (Xg.opx_pure ((Value.bool false)) rfl (fun _ => by kernel_rfl) ?_)
    refine Xg.ops_op (by kernel_rfl) (Xg.opx_pure ((Value.bool false)) rfl (fun _ => by kernel_rfl) ?_)
    refine Xg.ops_nil ?_
    refine Xg.at_seq ?_
    refine Xg.at_region ?_
    refine Xg.ops_op (by kernel_rfl) (Xg.opx_pure ((pv p 0)) rfl (fun _ => by kernel_rfl) ?_)
    refine Xg.ops_op (by kernel_rfl) (Xg.opx_pure ((iv (σ.regs 4))) rfl (fun _ => by kernel_rfl) ?_)
    refine Xg.ops_op (by kernel_rfl) (Xg.opx_callE' [0] (fun xx1 => [recsO (105 : Nat) (4 : Nat) sprC xx1.fst xx1.snd L, PpR p σ]) (fun _ => by kernel_rfl) (@hsp ) (by kernel_rfl) (by kernel_rfl) (by kernel_rfl) fun xx1 xh1 => ?_)
    try dsimp only at xh1
    refine Xg.ops_op (by kernel_rfl) (Xg.opx_pure ((Value.slice xx1.fst L.length xx1.snd)) rfl (fun _ => by kernel_rfl) ?_)
    refine Xg.ops_nil ?_
    refine Xg.at_seq ?_
    refine Xg.at_seq ?_
    refine Xg.at_region ?_
    refine Xg.ops_op (by kernel_rfl) (Xg.opx_pure ((iv 0)) rfl (fun _ => by kernel_rfl) ?_)
    refine Xg.ops_nil ?_
    refine Xg.at_block ?_)
  skip
  (focus
    refine Xg.at_rounds_inv (α := (Nat × (Nat → Int)) × (Nat → Value)) (fun x => ((fun k => k.1 ≤ 160 ∧ k.2 = drawF σ L k.1) : (Nat × (Nat → Int)) → Prop) x.1) (fun x => ((fun k => 160 - k.1) : (Nat × (Nat → Int)) → Nat) x.1) (fun x => Xg.headT [pv p 0, tu, iv (σ.regs 4), Value.bool false, Value.slice xx1.fst L.length xx1.snd, tu, tu, tu, tu, tu, pv p 0, pv p 0, pv p 0, pv p 4, iv (σ.regs 4), pv p 0, Value.bool false, Value.bool false, tu, tu, tu, tu, Value.bool false, Value.bool false, tu, tu, tu, tu, tu, tu, Value.bool false, pv p 0, iv (σ.regs 4), Value.slice xx1.fst L.length xx1.snd, iv 0, tu, tu, tu, tu, tu, tu, tu, tu, tu, tu, tu, tu, tu, tu, tu, tu, tu, tu, tu, tu, tu, tu, tu, tu, tu, tu, tu, tu, tu, tu, tu, tu, tu, tu, tu, tu, tu, tu, tu, tu, tu, tu, tu, tu, tu, tu, tu, tu, tu, tu, tu, tu, tu, tu, tu, tu, tu, tu, tu, tu, tu, tu, tu, tu, tu, tu, tu, tu, tu, tu, tu, tu, tu, tu, tu, tu, tu, tu, tu, tu, tu, tu, tu, tu, tu, tu, tu, tu, tu, tu, tu, tu, tu, tu, tu, tu, tu, tu, tu, tu, tu, tu, tu] [5, 6, 7, 8, 9, 35, 36, 37, 38, 39, 40, 41, 42, 43, 44, 45, 46, 47, 48, 49, 50, 51, 52, 53, 54, 55, 56, 57, 58, 59, 60, 61, 62, 63, 64, 65, 66, 67, 68, 69, 70, 71, 72, 73, 74, 75, 76, 77, 78, 79, 80, 81, 82, 83, 84, 85, 86, 87, 88, 89, 90, 91, 92, 93, 94, 95, 96, 97, 98, 99, 100, 101, 102, 103, 104, 105, 106, 107, 108, 109, 110, 111, 112, 113, 114, 115, 116, 117, 118, 119, 120, 121, 122, 123, 124, 125, 126, 127, 128, 129] (((fun k => [(34, .int .i64 (k.1 : Nat))]) : (Nat × (Nat → Int)) → List (Nat × Go.Value)) x.1) x.2) (fun x => ((fun k => [recsO 105 4 sprC xx1.1 xx1.2 L, PpR p { σ with now := k.2 }]) : (Nat × (Nat → Int)) → List Go.Sl.HP) x.1) (((0, σ.now)), fun j => ([pv p 0, tu, iv (σ.regs 4), Value.bool false, Value.slice xx1.fst L.length xx1.snd, tu, tu, tu, tu, tu, pv p 0, pv p 0, pv p 0, pv p 4, iv (σ.regs 4), pv p 0, Value.bool false, Value.bool false, tu, tu, tu, tu, Value.bool false, Value.bool false, tu, tu, tu, tu, tu, tu, Value.bool false, pv p 0, iv (σ.regs 4), Value.slice xx1.fst L.length xx1.snd, iv 0, tu, tu, tu, tu, tu, tu, tu, tu, tu, tu, tu, tu, tu, tu, tu, tu, tu, tu, tu, tu, tu, tu, tu, tu, tu, tu, tu, tu, tu, tu, tu, tu, tu, tu, tu, tu, tu, tu, tu, tu, tu, tu, tu, tu, tu, tu, tu, tu, tu, tu, tu, tu, tu, tu, tu, tu, tu, tu, tu, tu, tu, tu, tu, tu, tu, tu, tu, tu, tu, tu, tu, tu, tu, tu, tu, tu, tu, tu, tu, tu, tu, tu, tu, tu, tu, tu, tu, tu, tu, tu, tu, tu, tu, tu, tu, tu, tu, tu, tu, tu, tu, tu, tu] : List Value).getD j undef) (by kernel_rfl) (by kernel_rfl) ?_ ?_)
  · exact ⟨Nat.zero_le _, (drawF_0 σ L).symm⟩
  rintro ⟨⟨k, f⟩, J⟩ ⟨hk, hf⟩ ih
  dsimp only at hk hf
  (focus
    refine Xg.At.same (T' := [pv p 0, tu, iv (σ.regs 4), Value.bool false, Value.slice xx1.fst L.length xx1.snd, J 5, J 6, J 7, J 8, J 9, pv p 0, pv p 0, pv p 0, pv p 4, iv (σ.regs 4), pv p 0, Value.bool false, Value.bool false, tu, tu, tu, tu, Value.bool false, Value.bool false, tu, tu, tu, tu, tu, tu, Value.bool false, pv p 0, iv (σ.regs 4), Value.slice xx1.fst L.length xx1.snd, iv (↑k : Int), J 35, J 36, J 37, J 38, J 39, J 40, J 41, J 42, J 43, J 44, J 45, J 46, J 47, J 48, J 49, J 50, J 51, J 52, J 53, J 54, J 55, J 56, J 57, J 58, J 59, J 60, J 61, J 62, J 63, J 64, J 65, J 66, J 67, J 68, J 69, J 70, J 71, J 72, J 73, J 74, J 75, J 76, J 77, J 78, J 79, J 80, J 81, J 82, J 83, J 84, J 85, J 86, J 87, J 88, J 89, J 90, J 91, J 92, J 93, J 94, J 95, J 96, J 97, J 98, J 99, J 100, J 101, J 102, J 103, J 104, J 105, J 106, J 107, J 108, J 109, J 110, J 111, J 112, J 113, J 114, J 115, J 116, J 117, J 118, J 119, J 120, J 121, J 122, J 123, J 124, J 125, J 126, J 127, J 128, J 129, tu, tu, tu, tu, tu, tu, tu, tu]) (L' := [recsO (105 : Nat) (4 : Nat) sprC xx1.fst xx1.snd L, PpR p (Pp.mk σ.regs σ.vram σ.oam σ.clock σ.seen σ.rows ((k, f), J).fst.snd σ.last)]) (by kernel_rfl) rfl ?_)
  by_cases hlt : k < 160
  · have hfb := drawF_bd hσ L k
    have hsucc := drawF_succ σ L k h4.1
    rw [← hf] at hfb hsucc
    have hfin : ∀ c, c = pixI σ L k → upd f (160 * σ.regs 4 + (k : Int)).toNat c = drawF σ L (k + 1) := fun c e => by
      rw [hsucc, e, show (160 * σ.regs 4 + (k : Int)).toNat = 160 * (σ.regs 4).toNat + k from by omega]
    have hpix : ∀ (n c : Int) (o : Spr × Int), n = groundI σ k → o = overI σ (σ.regs 4) k L → c = mixI σ n o → c = pixI σ L k := fun n c o e1 e2 e3 => by rw [e3, e1, e2]; rfl
    have hb1 := band_255 (σ.regs 4 + σ.regs 2)
    have hb2 := band_255 ((k : Int) + σ.regs 3)
    have hov := over_n p σ f hσ hfb xx1.1 xx1.2 L hL10 (σ.regs 4) k h4 (by omega) hLk
    have hti := fun high row col => tile_n p σ f hσ hfb high row col
    have hco := fun r n => colour_n p σ f hσ hfb r n
    (focus
      refine Xg.at_seq ?_
      refine Xg.at_region ?_
      refine Xg.ops_op (by kernel_rfl) (Xg.opx_pure (.bool (decide ((((↑k : Int)) : Int) < ((160 : Int))))) rfl (fun _ => by kernel_rfl) ?_)
      refine Xg.ops_nil ?_
      refine Xg.at_seq ?_
      refine Xg.at_true (t := decide (((↑k : Int) < (160 : Int)))) (by kernel_rfl) (decide_eq_true (by omega)) ?_
      refine Xg.at_skip ?_
      refine Xg.at_seq ?_
      refine Xg.at_block ?_
      refine Xg.at_seq ?_
      refine Xg.at_region ?_
      refine Xg.ops_op (by kernel_rfl) (Xg.opx_pure ((iv (↑k : Int))) rfl (fun _ => by kernel_rfl) ?_)
      refine Xg.ops_op (by kernel_rfl) (Xg.opx_pure ((iv (↑k : Int))) rfl (fun _ => by kernel_rfl) ?_)
      refine Xg.ops_nil ?_
      refine Xg.at_seq ?_
      refine Xg.at_region ?_
      refine Xg.ops_op (by kernel_rfl) (Xg.opx_pure ((iv 0)) rfl (fun _ => by kernel_rfl) ?_)
      refine Xg.ops_nil ?_
      refine Xg.at_seq ?_
      refine Xg.at_block ?_
      refine Xg.at_seq ?_
      refine Xg.at_region ?_
      refine Xg.ops_op (by kernel_rfl) (Xg.opx_pure ((pv p 0)) rfl (fun _ => by kernel_rfl) ?_)
      refine Xg.ops_op (by kernel_rfl) (Xg.opx_call1' [1] [PpR p (Pp.mk σ.regs σ.vram σ.oam σ.clock σ.seen σ.rows f σ.last), recsO (105 : Nat) (4 : Nat) sprC xx1.fst xx1.snd L] (fun _ => by kernel_rfl) (@h0c (f)) (by kernel_rfl) (by kernel_rfl) (by kernel_rfl) ?_)
      refine Xg.ops_op (by kernel_rfl) (Xg.opx_pure (.bool false) rfl (fun _ => by kernel_rfl) ?_)
      refine Xg.ops_op (by kernel_rfl) (Xg.opx_pure ((Value.bool false)) rfl (fun _ => by kernel_rfl) ?_)
      refine Xg.ops_nil ?_
      refine Xg.at_false (t := false) (by kernel_rfl) rfl ?_
      refine Xg.at_seq ?_
      refine Xg.at_region ?_
      refine Xg.ops_op (by kernel_rfl) (Xg.opx_pure ((Value.bool false)) rfl (fun _ => by kernel_rfl) ?_)
      refine Xg.ops_op (by kernel_rfl) (Xg.opx_pure ((Value.bool false)) rfl (fun _ => by kernel_rfl) ?_)
      refine Xg.ops_skip (by kernel_rfl) ?_
      refine Xg.ops_skip (by kernel_rfl) ?_
      refine Xg.ops_skip (by kernel_rfl) ?_
      refine Xg.ops_skip (by kernel_rfl) ?_
      refine Xg.ops_skip (by kernel_rfl) ?_
      refine Xg.ops_skip (by kernel_rfl) ?_
      refine Xg.ops_skip (by kernel_rfl) ?_
      refine Xg.ops_skip (by kernel_rfl) ?_
      refine Xg.ops_op (by kernel_rfl) (Xg.opx_pure ((Value.bool false)) rfl (fun _ => by kernel_rfl) ?_)
      refine Xg.ops_op (by kernel_rfl) (Xg.opx_pure ((Value.bool false)) rfl (fun _ => by kernel_rfl) ?_)
      refine Xg.ops_nil ?_
      refine Xg.at_false (t := false) (by kernel_rfl) rfl ?_
      refine Xg.at_draw [2, 19] [(8, [0, 1, 2, 3, 4, 5, 6, 7, 8, 11, 12, 13, 14, 15, 16, 17, 18], Xg.CellIs (p) (((2 : Nat))) ((iv (σ.regs 2)))), (16, [0, 1, 2, 3, 4, 5, 6, 7, 8, 9, 10, 11, 12, 13, 14, 15, 16], Xg.CellIs (p) (((3 : Nat))) ((iv (σ.regs 3))))] (by kernel_rfl) ?_
      refine Xg.any_pure ((pv p 0)) 0 (by kernel_rfl) rfl (by kernel_rfl) (by kernel_rfl) (by kernel_rfl) (by kernel_rfl) rfl (fun _ => by kernel_rfl) ?_
      refine Xg.any_pure ((pv p 0)) 1 (by kernel_rfl) rfl (by kernel_rfl) (by kernel_rfl) (by kernel_rfl) (by kernel_rfl) rfl (fun _ => by kernel_rfl) ?_
      refine Xg.any_pure ((iv (σ.regs 4))) 3 (by kernel_rfl) rfl (by kernel_rfl) (by kernel_rfl) (by kernel_rfl) (by kernel_rfl) rfl (fun _ => by kernel_rfl) ?_
      refine Xg.any_pure ((pv p 0)) 4 (by kernel_rfl) rfl (by kernel_rfl) (by kernel_rfl) (by kernel_rfl) (by kernel_rfl) rfl (fun _ => by kernel_rfl) ?_
      refine Xg.any_pure ((pv p 0)) 5 (by kernel_rfl) rfl (by kernel_rfl) (by kernel_rfl) (by kernel_rfl) (by kernel_rfl) rfl (fun _ => by kernel_rfl) ?_
      refine Xg.any_pure ((pv p 0)) 6 (by kernel_rfl) rfl (by kernel_rfl) (by kernel_rfl) (by kernel_rfl) (by kernel_rfl) rfl (fun _ => by kernel_rfl) ?_
      refine Xg.any_pure (pv p 2) 7 (by kernel_rfl) rfl (by kernel_rfl) (by kernel_rfl) (by kernel_rfl) (by kernel_rfl) rfl (fun _ => by kernel_rfl) ?_
      refine Xg.any_reads (iv (σ.regs 2)) 8 0 (by kernel_rfl) rfl (by kernel_rfl) (by kernel_rfl) (by kernel_rfl) (by kernel_rfl) rfl rfl (by kernel_rfl) (Xg.cell_now (b := p) (off := ((2 : Nat))) 0 rfl (@Go.Proofs.Ytkfclamiendamaa.g_regs ((Pp.mk σ.regs σ.vram σ.oam σ.clock σ.seen σ.rows f σ.last)) (((2 : Nat))) (by omega))) (fun _ h => Xg.run_load (by kernel_rfl) (by kernel_rfl) h) ?_
      refine Xg.any_int .i64 (IntKind.wrap .i64 ((σ.regs 4 + σ.regs 2))) 9 (by kernel_rfl) rfl (by kernel_rfl) (by kernel_rfl) (by kernel_rfl) (by kernel_rfl) rfl (fun _ => by kernel_rfl) (Xg.wrap_i64_in (by omega)) ?_
      refine Xg.any_pure (.int .i64 (Xg.band .i64 ((σ.regs 4 + σ.regs 2)) (((255 : Int))))) 10 (by kernel_rfl) rfl (by kernel_rfl) (by kernel_rfl) (by kernel_rfl) (by kernel_rfl) rfl (fun _ => by kernel_rfl) ?_
      refine Xg.any_pure ((iv (↑k : Int))) 11 (by kernel_rfl) rfl (by kernel_rfl) (by kernel_rfl) (by kernel_rfl) (by kernel_rfl) rfl (fun _ => by kernel_rfl) ?_
      refine Xg.any_pure ((pv p 0)) 12 (by kernel_rfl) rfl (by kernel_rfl) (by kernel_rfl) (by kernel_rfl) (by kernel_rfl) rfl (fun _ => by kernel_rfl) ?_
      refine Xg.any_pure ((pv p 0)) 13 (by kernel_rfl) rfl (by kernel_rfl) (by kernel_rfl) (by kernel_rfl) (by kernel_rfl) rfl (fun _ => by kernel_rfl) ?_
      refine Xg.any_pure ((pv p 0)) 14 (by kernel_rfl) rfl (by kernel_rfl) (by kernel_rfl) (by kernel_rfl) (by kernel_rfl) rfl (fun _ => by kernel_rfl) ?_
      refine Xg.any_pure (pv p 3) 15 (by kernel_rfl) rfl (by kernel_rfl) (by kernel_rfl) (by kernel_rfl) (by kernel_rfl) rfl (fun _ => by kernel_rfl) ?_
      refine Xg.any_reads (iv (σ.regs 3)) 16 1 (by kernel_rfl) rfl (by kernel_rfl) (by kernel_rfl) (by kernel_rfl) (by kernel_rfl) rfl rfl (by kernel_rfl) (Xg.cell_now (b := p) (off := ((3 : Nat))) 0 rfl (@Go.Proofs.Ytkfclamiendamaa.g_regs ((Pp.mk σ.regs σ.vram σ.oam σ.clock σ.seen σ.rows f σ.last)) (((3 : Nat))) (by omega))) (fun _ h => Xg.run_load (by kernel_rfl) (by kernel_rfl) h) ?_
      refine Xg.any_int .i64 (IntKind.wrap .i64 (((↑k : Int) + σ.regs 3))) 17 (by kernel_rfl) rfl (by kernel_rfl) (by kernel_rfl) (by kernel_rfl) (by kernel_rfl) rfl (fun _ => by kernel_rfl) (Xg.wrap_i64_in (by omega)) ?_
      refine Xg.any_pure (.int .i64 (Xg.band .i64 (((↑k : Int) + σ.regs 3)) (((255 : Int))))) 18 (by kernel_rfl) rfl (by kernel_rfl) (by kernel_rfl) (by kernel_rfl) (by kernel_rfl) rfl (fun _ => by kernel_rfl) ?_
      refine Xg.any_each [2] (by kernel_rfl) rfl ⟨?_, trivial⟩
      refine Xg.comes_act rfl (by kernel_rfl) (by kernel_rfl) (Xg.opx_call1' [0] [PpR p (Pp.mk σ.regs σ.vram σ.oam σ.clock σ.seen σ.rows f σ.last), recsO (105 : Nat) (4 : Nat) sprC xx1.fst xx1.snd L] (fun _ => by kernel_rfl) (@h3c (f)) (by kernel_rfl) (by kernel_rfl) (by kernel_rfl) ?_)
      refine Xg.acts (Xg.owes_cell 0 rfl (@Go.Proofs.Ytkfclamiendamaa.g_regs ((Pp.mk σ.regs σ.vram σ.oam σ.clock σ.seen σ.rows f σ.last)) (((2 : Nat))) (by omega)) (Xg.owes_cell 0 rfl (@Go.Proofs.Ytkfclamiendamaa.g_regs ((Pp.mk σ.regs σ.vram σ.oam σ.clock σ.seen σ.rows f σ.last)) (((3 : Nat))) (by omega)) Xg.owes_nil)) ?_
      refine Xg.any_each [19] (by kernel_rfl) rfl ⟨?_, trivial⟩
      refine Xg.comes_act rfl (by kernel_rfl) (by kernel_rfl) (Xg.opx_callE' [0] (fun xx2 => [PpR p (Pp.mk σ.regs σ.vram σ.oam σ.clock σ.seen σ.rows f σ.last), recsO (105 : Nat) (4 : Nat) sprC xx1.fst xx1.snd L]) (fun _ => by kernel_rfl) (@hti ((hasB (σ.regs 0) (3 : Nat))) ((band IntKind.i64 (σ.regs 4 + σ.regs 2) (255 : Int))) ((band IntKind.i64 ((↑k : Int) + σ.regs 3) (255 : Int))) (by omega) (by omega)) (by kernel_rfl) (by kernel_rfl) (by kernel_rfl) fun xx2 xh2 => ?_)
      try dsimp only at xh2
      obtain ⟨xh2_0, xh2_1, xh2_2⟩ := xh2
      refine Xg.acts (Xg.owes_skip (by kernel_rfl) (Xg.owes_skip (by kernel_rfl) Xg.owes_nil)) ?_
      refine Xg.any_pure ((iv xx2)) 20 (by kernel_rfl) rfl (by kernel_rfl) (by kernel_rfl) (by kernel_rfl) (by kernel_rfl) rfl (fun _ => by kernel_rfl) ?_
      refine Xg.any_nil (by kernel_rfl) ?_
      refine Xg.at_inBlock ?_
      refine Xg.at_seq ?_
      refine Xg.at_region ?_
      refine Xg.ops_op (by kernel_rfl) (Xg.opx_pure ((pv p 0)) rfl (fun _ => by kernel_rfl) ?_)
      refine Xg.ops_op (by kernel_rfl) (Xg.opx_pure ((iv xx2)) rfl (fun _ => by kernel_rfl) ?_)
      refine Xg.ops_op (by kernel_rfl) (Xg.opx_callE' [0] (fun xx3 => [PpR p (Pp.mk σ.regs σ.vram σ.oam σ.clock σ.seen σ.rows f σ.last), recsO (105 : Nat) (4 : Nat) sprC xx1.fst xx1.snd L]) (fun _ => by kernel_rfl) (@hco (((7 : Int))) (xx2) (by omega) (by omega)) (by kernel_rfl) (by kernel_rfl) (by kernel_rfl) fun xx3 xh3 => ?_)
      try dsimp only at xh3
      obtain ⟨xh3_0, xh3_1, xh3_2⟩ := xh3
      refine Xg.ops_op (by kernel_rfl) (Xg.opx_pure ((uv xx3)) rfl (fun _ => by kernel_rfl) ?_)
      refine Xg.ops_nil ?_
      refine Xg.at_seq ?_
      refine Xg.at_seq ?_
      refine Xg.at_region ?_
      refine Xg.ops_op (by kernel_rfl) (Xg.opx_pure ((pv p 0)) rfl (fun _ => by kernel_rfl) ?_)
      refine Xg.ops_op (by kernel_rfl) (Xg.opx_pure ((Value.slice xx1.fst L.length xx1.snd)) rfl (fun _ => by kernel_rfl) ?_)
      refine Xg.ops_op (by kernel_rfl) (Xg.opx_pure ((iv (σ.regs 4))) rfl (fun _ => by kernel_rfl) ?_)
      refine Xg.ops_op (by kernel_rfl) (Xg.opx_pure ((iv (↑k : Int))) rfl (fun _ => by kernel_rfl) ?_)
      refine Xg.ops_op (by kernel_rfl) (Xg.opx_callE' [1, 0] (fun xx4 => [recsO (105 : Nat) (4 : Nat) sprC xx1.fst xx1.snd L, PpR p (Pp.mk σ.regs σ.vram σ.oam σ.clock σ.seen σ.rows f σ.last)]) (fun _ => by kernel_rfl) (@hov ) (by kernel_rfl) (by kernel_rfl) (by kernel_rfl) fun xx4 xh4 => ?_)
      try dsimp only at xh4
      obtain ⟨xh4_0, xh4_1, xh4_2, xh4_3, xh4_4⟩ := xh4
      refine Xg.ops_op (by kernel_rfl) (Xg.opx_pure ((Value.tuple #[Value.agg #[iv xx4.fst.row, iv xx4.fst.column, iv xx4.fst.tile, iv xx4.fst.flags], iv xx4.snd])) rfl (fun _ => by kernel_rfl) ?_)
      refine Xg.ops_op (by kernel_rfl) (Xg.opx_pure ((Value.agg #[iv xx4.fst.row, iv xx4.fst.column, iv xx4.fst.tile, iv xx4.fst.flags])) rfl (fun _ => by kernel_rfl) ?_)
      refine Xg.ops_op (by kernel_rfl) (Xg.opx_pure ((iv xx4.snd)) rfl (fun _ => by kernel_rfl) ?_)
      refine Xg.ops_op (by kernel_rfl) (Xg.opx_new 4 [iv 0, iv 0, iv 0, iv 0] (by kernel_rfl) (by kernel_rfl) fun xb1 => ?_)
      refine Xg.ops_op (by kernel_rfl) (Xg.opx_storen 4 (off := 0) 0 [iv xx4.fst.row, iv xx4.fst.column, iv xx4.fst.tile, iv xx4.fst.flags] (by kernel_rfl) rfl (by kernel_rfl) (by kernel_rfl) rfl (by kernel_rfl) (Nat.le_of_ble_eq_true (by kernel_rfl)) ?_)
      refine Xg.ops_op (by kernel_rfl) (Xg.opx_pure ((iv xx4.snd)) rfl (fun _ => by kernel_rfl) ?_)
      refine Xg.ops_nil ?_
      refine Xg.at_seq ?_
      refine Xg.at_region ?_
      refine Xg.ops_op (by kernel_rfl) (Xg.opx_pure ((iv xx4.snd)) rfl (fun _ => by kernel_rfl) ?_)
      refine Xg.ops_op (by kernel_rfl) (Xg.opx_pure (.bool (decide ((xx4.snd : Int) > ((0 : Int))))) rfl (fun _ => by kernel_rfl) ?_)
      refine Xg.ops_op (by kernel_rfl) (Xg.opx_pure ((Value.bool (decide (xx4.snd > (0 : Int))))) rfl (fun _ => by kernel_rfl) ?_)
      refine Xg.ops_flag (j := 102) (c := (decide (xx4.snd > (0 : Int)))) (by kernel_rfl) (fun xh5 => ?_) (fun xh5 => ?_)
      replace xh5 : (xx4.snd > (0 : Int)) := of_decide_eq_true xh5
      rotate_left
      replace xh5 : ¬ ((xx4.snd > (0 : Int))) := of_decide_eq_false xh5
      rotate_right
      refine Xg.ops_op (by kernel_rfl) (Xg.opx_pure ((pv xb1 3)) rfl (fun _ => by kernel_rfl) ?_)
      refine Xg.ops_op (by kernel_rfl) (Xg.opx_load (b := xb1) (off := ((3 : Nat))) 0 (iv xx4.fst.flags) rfl (by kernel_rfl) (by kernel_rfl) (by kernel_rfl) ?_)
      refine Xg.ops_op (by kernel_rfl) (Xg.opx_pure (.int .i64 (Xg.band .i64 (xx4.fst.flags) (((128 : Int))))) rfl (fun _ => by kernel_rfl) ?_)
      refine Xg.ops_op (by kernel_rfl) (Xg.opx_pure (.bool (decide (((band IntKind.i64 xx4.fst.flags (128 : Int)) : Int) = ((0 : Int))))) rfl (fun _ => by kernel_rfl) ?_)
      refine Xg.ops_op (by kernel_rfl) (Xg.opx_pure ((Value.bool (decide (band IntKind.i64 xx4.fst.flags (128 : Int) = (0 : Int))))) rfl (fun _ => by kernel_rfl) ?_)
      refine Xg.ops_flag (j := 107) (c := (decide (band IntKind.i64 xx4.fst.flags (128 : Int) = (0 : Int)))) (by kernel_rfl) (fun xh6 => ?_) (fun xh6 => ?_)
      replace xh6 : (band IntKind.i64 xx4.fst.flags (128 : Int) = (0 : Int)) := of_decide_eq_true xh6
      rotate_left
      replace xh6 : ¬ ((band IntKind.i64 xx4.fst.flags (128 : Int) = (0 : Int))) := of_decide_eq_false xh6
      rotate_right
      refine Xg.ops_skip (by kernel_rfl) ?_
      refine Xg.ops_skip (by kernel_rfl) ?_
      refine Xg.ops_op (by kernel_rfl) (Xg.opx_pure ((Value.bool true)) rfl (fun _ => by kernel_rfl) ?_)
      refine Xg.ops_op (by kernel_rfl) (Xg.opx_pure ((Value.bool true)) rfl (fun _ => by kernel_rfl) ?_)
      refine Xg.ops_nil ?_
      refine Xg.at_true (t := true) (by kernel_rfl) rfl ?_
      refine Xg.at_region ?_
      refine Xg.ops_op (by kernel_rfl) (Xg.opx_pure ((pv p 0)) rfl (fun _ => by kernel_rfl) ?_)
      refine Xg.ops_op (by kernel_rfl) (Xg.opx_pure ((pv xb1 3)) rfl (fun _ => by kernel_rfl) ?_)
      refine Xg.ops_op (by kernel_rfl) (Xg.opx_load (b := xb1) (off := ((3 : Nat))) 0 (iv xx4.fst.flags) rfl (by kernel_rfl) (by kernel_rfl) (by kernel_rfl) ?_)
      refine Xg.ops_op (by kernel_rfl) (Xg.opx_int .i64 (Int.fdiv (xx4.fst.flags) 16) rfl (fun _ => by kernel_rfl) (Xg.shr_div _ 16 (by decide)) ?_)
      refine Xg.ops_op (by kernel_rfl) (Xg.opx_pure (.int .i64 (Xg.band .i64 ((xx4.fst.flags / (16 : Int))) (((1 : Int))))) rfl (fun _ => by kernel_rfl) ?_)
      refine Xg.ops_op (by kernel_rfl) (Xg.opx_int .i64 (IntKind.wrap .i64 (((8 : Int) + band IntKind.i64 (xx4.fst.flags / (16 : Int)) (1 : Int)))) rfl (fun _ => by kernel_rfl) (Xg.wrap_i64_in (by omega)) ?_)
      refine Xg.ops_op (by kernel_rfl) (Xg.opx_pure ((iv xx4.snd)) rfl (fun _ => by kernel_rfl) ?_)
      refine Xg.ops_op (by kernel_rfl) (Xg.opx_callE' [2] (fun xx5 => [PpR p (Pp.mk σ.regs σ.vram σ.oam σ.clock σ.seen σ.rows f σ.last), row xb1 (105 : Nat) [iv xx4.fst.row, iv xx4.fst.column, iv xx4.fst.tile, iv xx4.fst.flags], recsO (105 : Nat) (4 : Nat) sprC xx1.fst xx1.snd L]) (fun _ => by kernel_rfl) (@hco (((8 : Int) + band IntKind.i64 (xx4.fst.flags / (16 : Int)) (1 : Int))) (xx4.snd) (by omega) (by omega)) (by kernel_rfl) (by kernel_rfl) (by kernel_rfl) fun xx5 xh7 => ?_)
      try dsimp only at xh7
      obtain ⟨xh7_0, xh7_1, xh7_2⟩ := xh7
      refine Xg.ops_op (by kernel_rfl) (Xg.opx_pure ((uv xx5)) rfl (fun _ => by kernel_rfl) ?_)
      refine Xg.ops_nil ?_
      refine Xg.at_region ?_
      refine Xg.ops_op (by kernel_rfl) (Xg.opx_pure ((pv p 0)) rfl (fun _ => by kernel_rfl) ?_)
      refine Xg.ops_op (by kernel_rfl) (Xg.opx_pure ((iv (σ.regs 4))) rfl (fun _ => by kernel_rfl) ?_)
      refine Xg.ops_op (by kernel_rfl) (Xg.opx_int .i64 (IntKind.wrap .i64 (((160 : Int) * σ.regs 4))) rfl (fun _ => by kernel_rfl) (Xg.wrap_i64_in (by omega)) ?_)
      refine Xg.ops_op (by kernel_rfl) (Xg.opx_pure ((iv (↑k : Int))) rfl (fun _ => by kernel_rfl) ?_)
      refine Xg.ops_op (by kernel_rfl) (Xg.opx_int .i64 (IntKind.wrap .i64 (((160 : Int) * σ.regs 4 + (↑k : Int)))) rfl (fun _ => by kernel_rfl) (Xg.wrap_i64_in (by omega)) ?_)
      refine Xg.ops_op (by kernel_rfl) (Xg.opx_pure ((uv xx5)) rfl (fun _ => by kernel_rfl) ?_)
      refine Xg.ops_op (by kernel_rfl) (Xg.opx_pure ((pv p 0)) rfl (fun _ => by kernel_rfl) ?_)
      refine Xg.ops_op (by kernel_rfl) (Xg.opx_pure ((pv p 8367)) rfl (fun _ => by kernel_rfl) ?_)
      refine Xg.ops_op (by kernel_rfl) (Xg.opx_run (.pointer (some (Addr.mk p ((8367 : Nat) + ((160 : Int) * σ.regs 4 + (↑k : Int)).toNat) none))) rfl (Xg.run_ix_array' (elem := 5) (len := 23040) (b := p) (off := ((8367 : Nat))) (kd := .i64) (e := ((160 : Int) * σ.regs 4 + (↑k : Int))) 1 (((160 : Int) * σ.regs 4 + (↑k : Int)).toNat) ((8367 : Nat) + ((160 : Int) * σ.regs 4 + (↑k : Int)).toNat) (by kernel_rfl) (by kernel_rfl) (by kernel_rfl) (by kernel_rfl) (by omega) (by omega) (by omega)) ?_)
      refine Xg.ops_op (by kernel_rfl) (Xg.opx_store_c (off := ((8367 : Nat) + ((160 : Int) * σ.regs 4 + (↑k : Int)).toNat)) (cs' := (ppc (Pp.mk σ.regs σ.vram σ.oam σ.clock σ.seen σ.rows (upd f ((160 : Int) * σ.regs 4 + (↑k : Int)).toNat xx5) σ.last))) 0 (uv xx5) (by kernel_rfl) rfl (by kernel_rfl) (by kernel_rfl) (by kernel_rfl) (@Go.Proofs.Ytkfclamiendamaa.s_now ((Pp.mk σ.regs σ.vram σ.oam σ.clock σ.seen σ.rows f σ.last)) ((((160 : Int) * σ.regs 4 + (↑k : Int)).toNat)) (xx5) (by omega)) ?_)
      refine Xg.ops_nil ?_
      refine Xg.at_inBlock ?_
      refine Xg.at_region ?_
      refine Xg.ops_op (by kernel_rfl) (Xg.opx_int .i64 (IntKind.wrap .i64 (((↑k : Int) + (1 : Int)))) rfl (fun _ => by kernel_rfl) (Xg.wrap_i64_in (by omega)) ?_)
      refine Xg.ops_op (by kernel_rfl) (Xg.opx_pure ((iv ((↑k : Int) + (1 : Int)))) rfl (fun _ => by kernel_rfl) ?_)
      refine Xg.ops_nil ?_
      refine Xg.at_inLoop ?_
      rotate_left
      refine Xg.ops_op (by kernel_rfl) (Xg.opx_pure ((iv xx2)) rfl (fun _ => by kernel_rfl) ?_)
      refine Xg.ops_op (by kernel_rfl) (Xg.opx_pure (.bool (decide ((xx2 : Int) = ((0 : Int))))) rfl (fun _ => by kernel_rfl) ?_)
      refine Xg.ops_flag (j := 109) (c := (decide (xx2 = (0 : Int)))) (by kernel_rfl) (fun xh7 => ?_) (fun xh7 => ?_)
      replace xh7 : (xx2 = (0 : Int)) := of_decide_eq_true xh7
      rotate_left
      replace xh7 : ¬ ((xx2 = (0 : Int))) := of_decide_eq_false xh7
      rotate_right
      refine Xg.ops_op (by kernel_rfl) (Xg.opx_pure ((Value.bool true)) rfl (fun _ => by kernel_rfl) ?_)
      refine Xg.ops_op (by kernel_rfl) (Xg.opx_pure ((Value.bool true)) rfl (fun _ => by kernel_rfl) ?_)
      refine Xg.ops_nil ?_
      refine Xg.at_true (t := true) (by kernel_rfl) rfl ?_
      refine Xg.at_region ?_
      refine Xg.ops_op (by kernel_rfl) (Xg.opx_pure ((pv p 0)) rfl (fun _ => by kernel_rfl) ?_)
      refine Xg.ops_op (by kernel_rfl) (Xg.opx_pure ((pv xb1 3)) rfl (fun _ => by kernel_rfl) ?_)
      refine Xg.ops_op (by kernel_rfl) (Xg.opx_load (b := xb1) (off := ((3 : Nat))) 0 (iv xx4.fst.flags) rfl (by kernel_rfl) (by kernel_rfl) (by kernel_rfl) ?_)
      refine Xg.ops_op (by kernel_rfl) (Xg.opx_int .i64 (Int.fdiv (xx4.fst.flags) 16) rfl (fun _ => by kernel_rfl) (Xg.shr_div _ 16 (by decide)) ?_)
      refine Xg.ops_op (by kernel_rfl) (Xg.opx_pure (.int .i64 (Xg.band .i64 ((xx4.fst.flags / (16 : Int))) (((1 : Int))))) rfl (fun _ => by kernel_rfl) ?_)
      refine Xg.ops_op (by kernel_rfl) (Xg.opx_int .i64 (IntKind.wrap .i64 (((8 : Int) + band IntKind.i64 (xx4.fst.flags / (16 : Int)) (1 : Int)))) rfl (fun _ => by kernel_rfl) (Xg.wrap_i64_in (by omega)) ?_)
      refine Xg.ops_op (by kernel_rfl) (Xg.opx_pure ((iv xx4.snd)) rfl (fun _ => by kernel_rfl) ?_)
      refine Xg.ops_op (by kernel_rfl) (Xg.opx_callE' [2] (fun xx5 => [PpR p (Pp.mk σ.regs σ.vram σ.oam σ.clock σ.seen σ.rows f σ.last), row xb1 (105 : Nat) [iv xx4.fst.row, iv xx4.fst.column, iv xx4.fst.tile, iv xx4.fst.flags], recsO (105 : Nat) (4 : Nat) sprC xx1.fst xx1.snd L]) (fun _ => by kernel_rfl) (@hco (((8 : Int) + band IntKind.i64 (xx4.fst.flags / (16 : Int)) (1 : Int))) (xx4.snd) (by omega) (by omega)) (by kernel_rfl) (by kernel_rfl) (by kernel_rfl) fun xx5 xh8 => ?_)
      try dsimp only at xh8
      obtain ⟨xh8_0, xh8_1, xh8_2⟩ := xh8
      refine Xg.ops_op (by kernel_rfl) (Xg.opx_pure ((uv xx5)) rfl (fun _ => by kernel_rfl) ?_)
      refine Xg.ops_nil ?_
      refine Xg.at_region ?_
      refine Xg.ops_op (by kernel_rfl) (Xg.opx_pure ((pv p 0)) rfl (fun _ => by kernel_rfl) ?_)
      refine Xg.ops_op (by kernel_rfl) (Xg.opx_pure ((iv (σ.regs 4))) rfl (fun _ => by kernel_rfl) ?_)
      refine Xg.ops_op (by kernel_rfl) (Xg.opx_int .i64 (IntKind.wrap .i64 (((160 : Int) * σ.regs 4))) rfl (fun _ => by kernel_rfl) (Xg.wrap_i64_in (by omega)) ?_)
      refine Xg.ops_op (by kernel_rfl) (Xg.opx_pure ((iv (↑k : Int))) rfl (fun _ => by kernel_rfl) ?_)
      refine Xg.ops_op (by kernel_rfl) (Xg.opx_int .i64 (IntKind.wrap .i64 (((160 : Int) * σ.regs 4 + (↑k : Int)))) rfl (fun _ => by kernel_rfl) (Xg.wrap_i64_in (by omega)) ?_)
      refine Xg.ops_op (by kernel_rfl) (Xg.opx_pure ((uv xx5)) rfl (fun _ => by kernel_rfl) ?_)
      refine Xg.ops_op (by kernel_rfl) (Xg.opx_pure ((pv p 0)) rfl (fun _ => by kernel_rfl) ?_)
      refine Xg.ops_op (by kernel_rfl) (Xg.opx_pure ((pv p 8367)) rfl (fun _ => by kernel_rfl) ?_)
      refine Xg.ops_op (by kernel_rfl) (Xg.opx_run (.pointer (some (Addr.mk p ((8367 : Nat) + ((160 : Int) * σ.regs 4 + (↑k : Int)).toNat) none))) rfl (Xg.run_ix_array' (elem := 5) (len := 23040) (b := p) (off := ((8367 : Nat))) (kd := .i64) (e := ((160 : Int) * σ.regs 4 + (↑k : Int))) 1 (((160 : Int) * σ.regs 4 + (↑k : Int)).toNat) ((8367 : Nat) + ((160 : Int) * σ.regs 4 + (↑k : Int)).toNat) (by kernel_rfl) (by kernel_rfl) (by kernel_rfl) (by kernel_rfl) (by omega) (by omega) (by omega)) ?_)
      refine Xg.ops_op (by kernel_rfl) (Xg.opx_store_c (off := ((8367 : Nat) + ((160 : Int) * σ.regs 4 + (↑k : Int)).toNat)) (cs' := (ppc (Pp.mk σ.regs σ.vram σ.oam σ.clock σ.seen σ.rows (upd f ((160 : Int) * σ.regs 4 + (↑k : Int)).toNat xx5) σ.last))) 0 (uv xx5) (by kernel_rfl) rfl (by kernel_rfl) (by kernel_rfl) (by kernel_rfl) (@Go.Proofs.Ytkfclamiendamaa.s_now ((Pp.mk σ.regs σ.vram σ.oam σ.clock σ.seen σ.rows f σ.last)) ((((160 : Int) * σ.regs 4 + (↑k : Int)).toNat)) (xx5) (by omega)) ?_)
      refine Xg.ops_nil ?_
      refine Xg.at_inBlock ?_
      refine Xg.at_region ?_
      refine Xg.ops_op (by kernel_rfl) (Xg.opx_int .i64 (IntKind.wrap .i64 (((↑k : Int) + (1 : Int)))) rfl (fun _ => by kernel_rfl) (Xg.wrap_i64_in (by omega)) ?_)
      refine Xg.ops_op (by kernel_rfl) (Xg.opx_pure ((iv ((↑k : Int) + (1 : Int)))) rfl (fun _ => by kernel_rfl) ?_)
      refine Xg.ops_nil ?_
      refine Xg.at_inLoop ?_
      rotate_left
      refine Xg.ops_op (by kernel_rfl) (Xg.opx_pure ((Value.bool false)) rfl (fun _ => by kernel_rfl) ?_)
      refine Xg.ops_op (by kernel_rfl) (Xg.opx_pure ((Value.bool false)) rfl (fun _ => by kernel_rfl) ?_)
      refine Xg.ops_nil ?_
      refine Xg.at_false (t := false) (by kernel_rfl) rfl ?_
      refine Xg.at_skip ?_
      refine Xg.at_region ?_
      refine Xg.ops_op (by kernel_rfl) (Xg.opx_pure ((pv p 0)) rfl (fun _ => by kernel_rfl) ?_)
      refine Xg.ops_op (by kernel_rfl) (Xg.opx_pure ((iv (σ.regs 4))) rfl (fun _ => by kernel_rfl) ?_)
      refine Xg.ops_op (by kernel_rfl) (Xg.opx_int .i64 (IntKind.wrap .i64 (((160 : Int) * σ.regs 4))) rfl (fun _ => by kernel_rfl) (Xg.wrap_i64_in (by omega)) ?_)
      refine Xg.ops_op (by kernel_rfl) (Xg.opx_pure ((iv (↑k : Int))) rfl (fun _ => by kernel_rfl) ?_)
      refine Xg.ops_op (by kernel_rfl) (Xg.opx_int .i64 (IntKind.wrap .i64 (((160 : Int) * σ.regs 4 + (↑k : Int)))) rfl (fun _ => by kernel_rfl) (Xg.wrap_i64_in (by omega)) ?_)
      refine Xg.ops_op (by kernel_rfl) (Xg.opx_pure ((uv xx3)) rfl (fun _ => by kernel_rfl) ?_)
      refine Xg.ops_op (by kernel_rfl) (Xg.opx_pure ((pv p 0)) rfl (fun _ => by kernel_rfl) ?_)
      refine Xg.ops_op (by kernel_rfl) (Xg.opx_pure ((pv p 8367)) rfl (fun _ => by kernel_rfl) ?_)
      refine Xg.ops_op (by kernel_rfl) (Xg.opx_run (.pointer (some (Addr.mk p ((8367 : Nat) + ((160 : Int) * σ.regs 4 + (↑k : Int)).toNat) none))) rfl (Xg.run_ix_array' (elem := 5) (len := 23040) (b := p) (off := ((8367 : Nat))) (kd := .i64) (e := ((160 : Int) * σ.regs 4 + (↑k : Int))) 1 (((160 : Int) * σ.regs 4 + (↑k : Int)).toNat) ((8367 : Nat) + ((160 : Int) * σ.regs 4 + (↑k : Int)).toNat) (by kernel_rfl) (by kernel_rfl) (by kernel_rfl) (by kernel_rfl) (by omega) (by omega) (by omega)) ?_)
      refine Xg.ops_op (by kernel_rfl) (Xg.opx_store_c (off := ((8367 : Nat) + ((160 : Int) * σ.regs 4 + (↑k : Int)).toNat)) (cs' := (ppc (Pp.mk σ.regs σ.vram σ.oam σ.clock σ.seen σ.rows (upd f ((160 : Int) * σ.regs 4 + (↑k : Int)).toNat xx3) σ.last))) 2 (uv xx3) (by kernel_rfl) rfl (by kernel_rfl) (by kernel_rfl) (by kernel_rfl) (@Go.Proofs.Ytkfclamiendamaa.s_now ((Pp.mk σ.regs σ.vram σ.oam σ.clock σ.seen σ.rows f σ.last)) ((((160 : Int) * σ.regs 4 + (↑k : Int)).toNat)) (xx3) (by omega)) ?_)
      refine Xg.ops_nil ?_
      refine Xg.at_inBlock ?_
      refine Xg.at_region ?_
      refine Xg.ops_op (by kernel_rfl) (Xg.opx_int .i64 (IntKind.wrap .i64 (((↑k : Int) + (1 : Int)))) rfl (fun _ => by kernel_rfl) (Xg.wrap_i64_in (by omega)) ?_)
      refine Xg.ops_op (by kernel_rfl) (Xg.opx_pure ((iv ((↑k : Int) + (1 : Int)))) rfl (fun _ => by kernel_rfl) ?_)
      refine Xg.ops_nil ?_
      refine Xg.at_inLoop ?_
      rotate_left
      refine Xg.ops_skip (by kernel_rfl) ?_
      refine Xg.ops_skip (by kernel_rfl) ?_
      refine Xg.ops_skip (by kernel_rfl) ?_
      refine Xg.ops_skip (by kernel_rfl) ?_
      refine Xg.ops_skip (by kernel_rfl) ?_
      refine Xg.ops_skip (by kernel_rfl) ?_
      refine Xg.ops_skip (by kernel_rfl) ?_
      refine Xg.ops_skip (by kernel_rfl) ?_
      refine Xg.ops_op (by kernel_rfl) (Xg.opx_pure ((Value.bool false)) rfl (fun _ => by kernel_rfl) ?_)
      refine Xg.ops_nil ?_
      refine Xg.at_false (t := false) (by kernel_rfl) rfl ?_
      refine Xg.at_skip ?_
      refine Xg.at_region ?_
      refine Xg.ops_op (by kernel_rfl) (Xg.opx_pure ((pv p 0)) rfl (fun _ => by kernel_rfl) ?_)
      refine Xg.ops_op (by kernel_rfl) (Xg.opx_pure ((iv (σ.regs 4))) rfl (fun _ => by kernel_rfl) ?_)
      refine Xg.ops_op (by kernel_rfl) (Xg.opx_int .i64 (IntKind.wrap .i64 (((160 : Int) * σ.regs 4))) rfl (fun _ => by kernel_rfl) (Xg.wrap_i64_in (by omega)) ?_)
      refine Xg.ops_op (by kernel_rfl) (Xg.opx_pure ((iv (↑k : Int))) rfl (fun _ => by kernel_rfl) ?_)
      refine Xg.ops_op (by kernel_rfl) (Xg.opx_int .i64 (IntKind.wrap .i64 (((160 : Int) * σ.regs 4 + (↑k : Int)))) rfl (fun _ => by kernel_rfl) (Xg.wrap_i64_in (by omega)) ?_)
      refine Xg.ops_op (by kernel_rfl) (Xg.opx_pure ((uv xx3)) rfl (fun _ => by kernel_rfl) ?_)
      refine Xg.ops_op (by kernel_rfl) (Xg.opx_pure ((pv p 0)) rfl (fun _ => by kernel_rfl) ?_)
      refine Xg.ops_op (by kernel_rfl) (Xg.opx_pure ((pv p 8367)) rfl (fun _ => by kernel_rfl) ?_)
      refine Xg.ops_op (by kernel_rfl) (Xg.opx_run (.pointer (some (Addr.mk p ((8367 : Nat) + ((160 : Int) * σ.regs 4 + (↑k : Int)).toNat) none))) rfl (Xg.run_ix_array' (elem := 5) (len := 23040) (b := p) (off := ((8367 : Nat))) (kd := .i64) (e := ((160 : Int) * σ.regs 4 + (↑k : Int))) 1 (((160 : Int) * σ.regs 4 + (↑k : Int)).toNat) ((8367 : Nat) + ((160 : Int) * σ.regs 4 + (↑k : Int)).toNat) (by kernel_rfl) (by kernel_rfl) (by kernel_rfl) (by kernel_rfl) (by omega) (by omega) (by omega)) ?_)
      refine Xg.ops_op (by kernel_rfl) (Xg.opx_store_c (off := ((8367 : Nat) + ((160 : Int) * σ.regs 4 + (↑k : Int)).toNat)) (cs' := (ppc (Pp.mk σ.regs σ.vram σ.oam σ.clock σ.seen σ.rows (upd f ((160 : Int) * σ.regs 4 + (↑k : Int)).toNat xx3) σ.last))) 2 (uv xx3) (by kernel_rfl) rfl (by kernel_rfl) (by kernel_rfl) (by kernel_rfl) (@Go.Proofs.Ytkfclamiendamaa.s_now ((Pp.mk σ.regs σ.vram σ.oam σ.clock σ.seen σ.rows f σ.last)) ((((160 : Int) * σ.regs 4 + (↑k : Int)).toNat)) (xx3) (by omega)) ?_)
      refine Xg.ops_nil ?_
      refine Xg.at_inBlock ?_
      refine Xg.at_region ?_
      refine Xg.ops_op (by kernel_rfl) (Xg.opx_int .i64 (IntKind.wrap .i64 (((↑k : Int) + (1 : Int)))) rfl (fun _ => by kernel_rfl) (Xg.wrap_i64_in (by omega)) ?_)
      refine Xg.ops_op (by kernel_rfl) (Xg.opx_pure ((iv ((↑k : Int) + (1 : Int)))) rfl (fun _ => by kernel_rfl) ?_)
      refine Xg.ops_nil ?_
      refine Xg.at_inLoop ?_)
    · (focus
        refine Xg.at_keep [1, 2] (by kernel_rfl) ?_
        refine Xs.same ?_ (fun J9 => ih (((k + 1, upd f (160 * σ.regs 4 + (k : Int)).toNat xx3)), J9) ?_ ?_) (by kernel_rfl))
      · rfl
      · exact ⟨by dsimp only; omega, hfin _ (hpix xx2 _ xx4 (by unfold groundI; rw [if_pos b0, if_neg (by simp [hw]), show xx2 = tileI σ _ _ _ from by assumption, hb1, hb2]) (by assumption) (by rw [mixI, if_neg (fun h => by omega)]; exact (show xx3 = palI σ 7 xx2 from by assumption)))⟩
      · dsimp only; omega
    · (focus
        refine Xg.at_keep [2, 0] (by kernel_rfl) ?_
        refine Xs.same ?_ (fun J9 => ih (((k + 1, upd f (160 * σ.regs 4 + (k : Int)).toNat xx5)), J9) ?_ ?_) (by kernel_rfl))
      · rfl
      · exact ⟨by dsimp only; omega, hfin _ (hpix xx2 _ xx4 (by unfold groundI; rw [if_pos b0, if_neg (by simp [hw]), show xx2 = tileI σ _ _ _ from by assumption, hb1, hb2]) (by assumption) (by rw [mixI, if_pos (by omega), show xx5 = palI σ (8 + band .i64 (xx4.1.flags / 16) 1) xx4.2 from by assumption, show band .i64 (xx4.1.flags / 16) 1 = xx4.1.flags / 16 % 2 from by assumption]))⟩
      · dsimp only; omega
    · (focus
        refine Xg.at_keep [2, 0] (by kernel_rfl) ?_
        refine Xs.same ?_ (fun J9 => ih (((k + 1, upd f (160 * σ.regs 4 + (k : Int)).toNat xx5)), J9) ?_ ?_) (by kernel_rfl))
      · rfl
      · exact ⟨by dsimp only; omega, hfin _ (hpix xx2 _ xx4 (by unfold groundI; rw [if_pos b0, if_neg (by simp [hw]), show xx2 = tileI σ _ _ _ from by assumption, hb1, hb2]) (by assumption) (by rw [mixI, if_pos (by omega), show xx5 = palI σ (8 + band .i64 (xx4.1.flags / 16) 1) xx4.2 from by assumption, show band .i64 (xx4.1.flags / 16) 1 = xx4.1.flags / 16 % 2 from by assumption]))⟩
      · dsimp only; omega
    · (focus
        refine Xg.at_keep [1, 2] (by kernel_rfl) ?_
        refine Xs.same ?_ (fun J9 => ih (((k + 1, upd f (160 * σ.regs 4 + (k : Int)).toNat xx3)), J9) ?_ ?_) (by kernel_rfl))
      · rfl
      · exact ⟨by dsimp only; omega, hfin _ (hpix xx2 _ xx4 (by unfold groundI; rw [if_pos b0, if_neg (by simp [hw]), show xx2 = tileI σ _ _ _ from by assumption, hb1, hb2]) (by assumption) (by rw [mixI, if_neg (fun h => by omega)]; exact (show xx3 = palI σ 7 xx2 from by assumption)))⟩
      · dsimp only; omega
  · clear ih
    have hkn : k = 160 := by omega
    subst hkn
    subst hf
    (focus
      refine Xg.at_seq ?_
      refine Xg.at_region ?_
      refine Xg.ops_op (by kernel_rfl) (Xg.opx_pure ((Value.bool false)) rfl (fun _ => by kernel_rfl) ?_)
      refine Xg.ops_nil ?_
      refine Xg.at_seq ?_
      refine Xg.at_false (t := false) (by kernel_rfl) rfl ?_
      refine Xg.at_exit rfl ?_
      refine Xg.at_seq ?_
      refine Xg.at_region ?_
      refine Xg.ops_op (by kernel_rfl) (Xg.opx_pure ((Value.bool false)) rfl (fun _ => by kernel_rfl) ?_)
      refine Xg.ops_nil ?_
      refine Xg.at_false (t := false) (by kernel_rfl) rfl ?_
      refine Xg.at_skip ?_
      refine Xg.at_end_ps (v := (tu)) [1] [PpR p (Pp.mk σ.regs σ.vram σ.oam σ.clock σ.seen σ.rows (drawF σ L (160 : Nat)) σ.last)] Go.Proofs.Try.func59 (fun _ => by kernel_rfl) (by kernel_rfl) (by kernel_rfl) ?_
      exact ⟨by kernel_rfl, by kernel_rfl⟩)

set_option maxHeartbeats 0 in
theorem draw_b1 (p : Nat) (σ : Pp) (hσ : σ.Wf) (hly : σ.regs 4 < 144) (hrows : σ.rows ≤ 143) (b5 : hasB (σ.regs 0) 5 = true) (b9 : σ.seen = false) (b0 : hasB (σ.regs 0) 0 = true) : Does Try.prog 59 [pt p] [PpR p σ] (Ret (.tuple #[]) [PpR p (drawP σ)]) := by
  have h0 := hσ.regs 0
  have h2 := hσ.regs 2
  have h3 := hσ.regs 3
  have h4 := hσ.regs 4
  have h11 := hσ.regs 11
  have hr := hσ.rows
  have hw : winB σ = false := by unfold winB; simp [*]
  obtain ⟨L, hL⟩ : ∃ L, sprL σ (σ.regs 4) = L := ⟨_, rfl⟩
  have hLo := sprL_ok hσ (σ.regs 4)
  rw [hL] at hLo
  obtain ⟨hL10, hLk⟩ := hLo
  have hG : drawP σ = { σ with now := drawF σ L 160, rows := σ.rows } := by
    unfold drawP
    rw [hL, hw]
    rfl
  have hsp := sprites_e p σ hσ L hL
  have h5c : Does Try.prog 74 [pt p, .int .i64 5] [PpR p σ] (Ret (.bool true) [PpR p σ]) := by
    have := has_5 p σ h0
    rwa [b5] at this
  have h0c : ∀ f, Does Try.prog 74 [pt p, .int .i64 0] [PpR p { σ with now := f }] (Ret (.bool true) [PpR p { σ with now := f }]) := fun f => by
    have := has_0 p { σ with now := f } h0
    rwa [show hasB (({ σ with now := f } : Pp).regs 0) 0 = true from b0] at this
  have h3c : ∀ f, Does Try.prog 74 [pt p, .int .i64 3] [PpR p { σ with now := f }] (Ret (.bool (hasB (σ.regs 0) 3)) [PpR p { σ with now := f }]) := fun f => has_3 p { σ with now := f } h0
  have h6c : ∀ f, Does Try.prog 74 [pt p, .int .i64 6] [PpR p { σ with now := f }] (Ret (.bool (hasB (σ.regs 0) 6)) [PpR p { σ with now := f }]) := fun f => has_6 p { σ with now := f } h0
  rw [hG]
  (focus
    refine Xg.spec_of Go.Proofs.Try.func59 rfl Go.Proofs.Try.ntmps59 fun g F => ?_)
  (focus
    refine Xg.at_seq ?_
    refine Xg.at_region ?_
    refine Xg.ops_op (by kernel_rfl) (Xg.opx_pure ((pv p 0)) rfl (fun _ => by kernel_rfl) ?_)
    refine Xg.ops_op (by kernel_rfl) (Xg.opx_pure ((pv p 0)) rfl (fun _ => by kernel_rfl) ?_)
    refine Xg.ops_op (by kernel_rfl) (Xg.opx_pure ((pv p 0)) rfl (fun _ => by kernel_rfl) ?_)
    refine Xg.ops_op (by kernel_rfl) (Xg.opx_pure (pv p 4) rfl (fun _ => by kernel_rfl) ?_)
    refine Xg.ops_op (by kernel_rfl) (Xg.opx_load (b := p) (off := ((4 : Nat))) 0 (iv (σ.regs 4)) rfl (by kernel_rfl) (@Go.Proofs.Ytkfclamiendamaa.g_regs (σ) (((4 : Nat))) (by omega)) (by kernel_rfl) ?_)
    refine Xg.ops_op (by kernel_rfl) (Xg.opx_pure ((iv (σ.regs 4))) rfl (fun _ => by kernel_rfl) ?_)
    refine Xg.ops_nil ?_
    refine Xg.at_seq ?_
    refine Xg.at_region ?_
    refine Xg.ops_op (by kernel_rfl) (Xg.opx_pure ((pv p 0)) rfl (fun _ => by kernel_rfl) ?_)
    refine Xg.ops_op (by kernel_rfl) (Xg.opx_call1' [0] [PpR p σ] (fun _ => by kernel_rfl) (@h5c ) (by kernel_rfl) (by kernel_rfl) (by kernel_rfl) ?_)
    refine Xg.ops_op (by kernel_rfl) (Xg.opx_pure ((Value.bool true)) rfl (fun _ => by kernel_rfl) ?_)
    refine Xg.ops_op (by kernel_rfl) (Xg.opx_pure ((pv p 0)) rfl (fun _ => by kernel_rfl) ?_)
    refine Xg.ops_op (by kernel_rfl) (Xg.opx_pure ((pv p 0)) rfl (fun _ => by kernel_rfl) ?_)
    refine Xg.ops_op (by kernel_rfl) (Xg.opx_pure ((pv p 8365)) rfl (fun _ => by kernel_rfl) ?_)
    refine Xg.ops_op (by kernel_rfl) (Xg.opx_load (b := p) (off := ((8365 : Nat))) 0 (Value.bool σ.seen) rfl (by kernel_rfl) (@Go.Proofs.Ytkfclamiendamaa.g_seen (σ)) (by kernel_rfl) ?_)
    refine Xg.ops_flag (j := 21) (c := σ.seen) (by kernel_rfl) (fun xh1 => ?_) (fun xh1 => ?_)
    refine Xg.ops_op (by kernel_rfl) (Xg.opx_pure ((Value.bool true)) rfl (fun _ => by kernel_rfl) ?_)
    refine Xg.ops_op (by kernel_rfl) (Xg.opx_pure ((Value.bool true)) rfl (fun _ => by kernel_rfl) ?_)
    refine Xg.ops_op (by kernel_rfl) (Xg.opx_pure ((pv p 0)) rfl (fun _ => by kernel_rfl) ?_)
    refine Xg.ops_op (by kernel_rfl) (Xg.opx_pure ((pv p 0)) rfl (fun _ => by kernel_rfl) ?_)
    refine Xg.ops_op (by kernel_rfl) (Xg.opx_pure ((pv p 0)) rfl (fun _ => by kernel_rfl) ?_)
    refine Xg.ops_op (by kernel_rfl) (Xg.opx_pure (pv p 11) rfl (fun _ => by kernel_rfl) ?_)
    refine Xg.ops_op (by kernel_rfl) (Xg.opx_load (b := p) (off := ((11 : Nat))) 0 (iv (σ.regs 11)) rfl (by kernel_rfl) (@Go.Proofs.Ytkfclamiendamaa.g_regs (σ) (((11 : Nat))) (by omega)) (by kernel_rfl) ?_)
    refine Xg.ops_op (by kernel_rfl) (Xg.opx_pure (.bool (decide (((σ.regs 11) : Int) ≤ ((166 : Int))))) rfl (fun _ => by kernel_rfl) ?_)
    refine Xg.ops_flag (j := 29) (c := (decide (σ.regs 11 ≤ (166 : Int)))) (by kernel_rfl) (fun xh2 => ?_) (fun xh2 => ?_)
    replace xh2 : (σ.regs (11 : Nat) ≤ (166 : Int)) := of_decide_eq_true xh2
    rotate_left
    replace xh2 : ¬ ((σ.regs (11 : Nat) ≤ (166 : Int))) := of_decide_eq_false xh2
    rotate_right
    refine Xg.ops_op (by kernel_rfl) (Xg.opx_pure ((Value.bool true)) rfl (fun _ => by kernel_rfl) ?_)
    refine Xg.ops_op (by kernel_rfl) (Xg.opx_pure ((Value.bool true)) rfl (fun _ => by kernel_rfl) ?_)
    refine Xg.ops_nil ?_
    refine Xg.at_seq ?_
    refine Xg.at_region ?_
    refine Xg.ops_op (by kernel_rfl) (Xg.opx_pure ((pv p 0)) rfl (fun _ => by kernel_rfl) ?_)
    refine Xg.ops_op (by kernel_rfl) (Xg.opx_pure ((iv (σ.regs 4))) rfl (fun _ => by kernel_rfl) ?_)
    refine Xg.ops_op (by kernel_rfl) (Xg.opx_callE' [0] (fun xx1 => [recsO (105 : Nat) (4 : Nat) sprC xx1.fst xx1.snd L, PpR p σ]) (fun _ => by kernel_rfl) (@hsp ) (by kernel_rfl) (by kernel_rfl) (by kernel_rfl) fun xx1 xh3 => ?_)
    try dsimp only at xh3
    refine Xg.ops_op (by kernel_rfl) (Xg.opx_pure ((Value.slice xx1.fst L.length xx1.snd)) rfl (fun _ => by kernel_rfl) ?_)
    refine Xg.ops_nil ?_
    refine Xg.at_seq ?_
    refine Xg.at_seq ?_
    refine Xg.at_region ?_
    refine Xg.ops_op (by kernel_rfl) (Xg.opx_pure ((iv 0)) rfl (fun _ => by kernel_rfl) ?_)
    refine Xg.ops_nil ?_
    refine Xg.at_block ?_
    rotate_left
    refine Xg.ops_op (by kernel_rfl) (Xg.opx_pure ((Value.bool false)) rfl (fun _ => by kernel_rfl) ?_)
    refine Xg.ops_op (by kernel_rfl) (Xg.opx_pure ((Value.bool false)) rfl (fun _ => by kernel_rfl) ?_)
    refine Xg.ops_nil ?_
    refine Xg.at_seq ?_
    refine Xg.at_region ?_
    refine Xg.ops_op (by kernel_rfl) (Xg.opx_pure ((pv p 0)) rfl (fun _ => by kernel_rfl) ?_)
    refine Xg.ops_op (by kernel_rfl) (Xg.opx_pure ((iv (σ.regs 4))) rfl (fun _ => by kernel_rfl) ?_)
    refine Xg.ops_op (by kernel_rfl) (Xg.opx_callE' [0] (fun xx1 => [recsO (105 : Nat) (4 : Nat) sprC xx1.fst xx1.snd L, PpR p σ]) (fun _ => by kernel_rfl) (@hsp ) (by kernel_rfl) (by kernel_rfl) (by kernel_rfl) fun xx1 xh3 => ?_)
    try dsimp only at xh3
    refine Xg.ops_op (by kernel_rfl) (Xg.opx_pure ((Value.slice xx1.fst L.length xx1.snd)) rfl (fun _ => by kernel_rfl) ?_)
    refine Xg.ops_nil ?_
    refine Xg.at_seq ?_
    refine Xg.at_seq ?_
    refine Xg.at_region ?_
    refine Xg.ops_op (by kernel_rfl) (Xg.opx_pure ((iv 0)) rfl (fun _ => by kernel_rfl) ?_)
    refine Xg.ops_nil ?_
    refine Xg.at_block ?_
    rotate_left
    refine Xg.ops_op (by kernel_rfl) (Xg.opx_pure ((Value.bool false)) rfl (fun _ => by kernel_rfl) ?_)
    refine Xg.ops_op (by kernel_rfl) (Xg.opx_pure ((Value.bool false)) rfl (fun _ => by kernel_rfl) ?_)
    refine Xg.ops_skip (by kernel_rfl) ?_
    refine Xg.ops_skip (by kernel_rfl) ?_
    refine Xg.ops_skip (by kernel_rfl) ?_
    refine Xg.ops_skip (by kernel_rfl) ?_
    refine Xg.ops_skip (by kernel_rfl) ?_
    refine Xg.ops_skip (by kernel_rfl) ?_
    refine Xg.ops_op (by kernel_rfl) (Xg.opx_pure ((Value.bool false)) rfl (fun _ => by kernel_rfl) ?_)
    refine Xg.ops_op (by kernel_rfl) (Xg.opx_pure ((Value.bool false)) rfl (fun _ => by kernel_rfl) ?_)
    refine Xg.ops_nil ?_
    refine Xg.at_seq ?_
    refine Xg.at_region ?_
    refine Xg.ops_op (by kernel_rfl) (Xg.opx_pure ((pv p 0)) rfl (fun _ => by kernel_rfl) ?_)
    refine Xg.ops_op (by kernel_rfl) (Xg.opx_pure ((iv (σ.regs 4))) rfl (fun _ => by kernel_rfl) ?_)
    refine Xg.ops_op (by kernel_rfl) (Xg.opx_callE' [0] (fun xx1 => [recsO (105 : Nat) (4 : Nat) sprC xx1.fst xx1.snd L, PpR p σ]) (fun _ => by kernel_rfl) (@hsp ) (by kernel_rfl) (by kernel_rfl) (by kernel_rfl) fun xx1 xh2 => ?_)
    try dsimp only at xh2
    refine Xg.ops_op (by kernel_rfl) (Xg.opx_pure ((Value.slice xx1.fst L.length xx1.snd)) rfl (fun _ => by kernel_rfl) ?_)
    refine Xg.ops_nil ?_
    refine Xg.at_seq ?_
    refine Xg.at_seq ?_
    refine Xg.at_region ?_
    refine Xg.ops_op (by kernel_rfl) (Xg.opx_pure ((iv 0)) rfl (fun _ => by kernel_rfl) ?_)
    refine Xg.ops_nil ?_
    refine Xg.at_block ?_)
  all_goals first | (have e : σ.seen = true := (by assumption); exact absurd (b9.symm.trans e) (by decide)) | skip
  (focus
    refine Xg.at_rounds_inv (α := (Nat × (Nat → Int)) × (Nat → Value)) (fun x => ((fun k => k.1 ≤ 160 ∧ k.2 = drawF σ L k.1) : (Nat × (Nat → Int)) → Prop) x.1) (fun x => ((fun k => 160 - k.1) : (Nat × (Nat → Int)) → Nat) x.1) (fun x => Xg.headT [pv p 0, tu, iv (σ.regs 4), Value.bool false, Value.slice xx1.fst L.length xx1.snd, tu, tu, tu, tu, tu, pv p 0, pv p 0, pv p 0, pv p 4, iv (σ.regs 4), pv p 0, Value.bool true, Value.bool true, pv p 0, pv p 0, pv p 8365, Value.bool false, Value.bool false, Value.bool false, tu, tu, tu, tu, tu, tu, Value.bool false, pv p 0, iv (σ.regs 4), Value.slice xx1.fst L.length xx1.snd, iv 0, tu, tu, tu, tu, tu, tu, tu, tu, tu, tu, tu, tu, tu, tu, tu, tu, tu, tu, tu, tu, tu, tu, tu, tu, tu, tu, tu, tu, tu, tu, tu, tu, tu, tu, tu, tu, tu, tu, tu, tu, tu, tu, tu, tu, tu, tu, tu, tu, tu, tu, tu, tu, tu, tu, tu, tu, tu, tu, tu, tu, tu, tu, tu, tu, tu, tu, tu, tu, tu, tu, tu, tu, tu, tu, tu, tu, tu, tu, tu, tu, tu, tu, tu, tu, tu, tu, tu, tu, tu, tu, tu, tu, tu, tu, tu, tu, tu, tu, tu, tu, tu, tu, tu] [5, 6, 7, 8, 9, 35, 36, 37, 38, 39, 40, 41, 42, 43, 44, 45, 46, 47, 48, 49, 50, 51, 52, 53, 54, 55, 56, 57, 58, 59, 60, 61, 62, 63, 64, 65, 66, 67, 68, 69, 70, 71, 72, 73, 74, 75, 76, 77, 78, 79, 80, 81, 82, 83, 84, 85, 86, 87, 88, 89, 90, 91, 92, 93, 94, 95, 96, 97, 98, 99, 100, 101, 102, 103, 104, 105, 106, 107, 108, 109, 110, 111, 112, 113, 114, 115, 116, 117, 118, 119, 120, 121, 122, 123, 124, 125, 126, 127, 128, 129] (((fun k => [(34, .int .i64 (k.1 : Nat))]) : (Nat × (Nat → Int)) → List (Nat × Go.Value)) x.1) x.2) (fun x => ((fun k => [recsO 105 4 sprC xx1.1 xx1.2 L, PpR p { σ with now := k.2 }]) : (Nat × (Nat → Int)) → List Go.Sl.HP) x.1) (((0, σ.now)), fun j => ([pv p 0, tu, iv (σ.regs 4), Value.bool false, Value.slice xx1.fst L.length xx1.snd, tu, tu, tu, tu, tu, pv p 0, pv p 0, pv p 0, pv p 4, iv (σ.regs 4), pv p 0, Value.bool true, Value.bool true, pv p 0, pv p 0, pv p 8365, Value.bool false, Value.bool false, Value.bool false, tu, tu, tu, tu, tu, tu, Value.bool false, pv p 0, iv (σ.regs 4), Value.slice xx1.fst L.length xx1.snd, iv 0, tu, tu, tu, tu, tu, tu, tu, tu, tu, tu, tu, tu, tu, tu, tu, tu, tu, tu, tu, tu, tu, tu, tu, tu, tu, tu, tu, tu, tu, tu, tu, tu, tu, tu, tu, tu, tu, tu, tu, tu, tu, tu, tu, tu, tu, tu, tu, tu, tu, tu, tu, tu, tu, tu, tu, tu, tu, tu, tu, tu, tu, tu, tu, tu, tu, tu, tu, tu, tu, tu, tu, tu, tu, tu, tu, tu, tu, tu, tu, tu, tu, tu, tu, tu, tu, tu, tu, tu, tu, tu, tu, tu, tu, tu, tu, tu, tu, tu, tu, tu, tu, tu, tu] : List Value).getD j undef) (by kernel_rfl) (by kernel_rfl) ?_ ?_)
  · exact ⟨Nat.zero_le _, (drawF_0 σ L).symm⟩
  rintro ⟨⟨k, f⟩, J⟩ ⟨hk, hf⟩ ih
  dsimp only at hk hf
  (focus
    refine Xg.At.same (T' := [pv p 0, tu, iv (σ.regs 4), Value.bool false, Value.slice xx1.fst L.length xx1.snd, J 5, J 6, J 7, J 8, J 9, pv p 0, pv p 0, pv p 0, pv p 4, iv (σ.regs 4), pv p 0, Value.bool true, Value.bool true, pv p 0, pv p 0, pv p 8365, Value.bool false, Value.bool false, Value.bool false, tu, tu, tu, tu, tu, tu, Value.bool false, pv p 0, iv (σ.regs 4), Value.slice xx1.fst L.length xx1.snd, iv (↑k : Int), J 35, J 36, J 37, J 38, J 39, J 40, J 41, J 42, J 43, J 44, J 45, J 46, J 47, J 48, J 49, J 50, J 51, J 52, J 53, J 54, J 55, J 56, J 57, J 58, J 59, J 60, J 61, J 62, J 63, J 64, J 65, J 66, J 67, J 68, J 69, J 70, J 71, J 72, J 73, J 74, J 75, J 76, J 77, J 78, J 79, J 80, J 81, J 82, J 83, J 84, J 85, J 86, J 87, J 88, J 89, J 90, J 91, J 92, J 93, J 94, J 95, J 96, J 97, J 98, J 99, J 100, J 101, J 102, J 103, J 104, J 105, J 106, J 107, J 108, J 109, J 110, J 111, J 112, J 113, J 114, J 115, J 116, J 117, J 118, J 119, J 120, J 121, J 122, J 123, J 124, J 125, J 126, J 127, J 128, J 129, tu, tu, tu, tu, tu, tu, tu, tu]) (L' := [recsO (105 : Nat) (4 : Nat) sprC xx1.fst xx1.snd L, PpR p (Pp.mk σ.regs σ.vram σ.oam σ.clock σ.seen σ.rows ((k, f), J).fst.snd σ.last)]) (by kernel_rfl) rfl ?_)
  by_cases hlt : k < 160
  · have hfb := drawF_bd hσ L k
    have hsucc := drawF_succ σ L k h4.1
    rw [← hf] at hfb hsucc
    have hfin : ∀ c, c = pixI σ L k → upd f (160 * σ.regs 4 + (k : Int)).toNat c = drawF σ L (k + 1) := fun c e => by
      rw [hsucc, e, show (160 * σ.regs 4 + (k : Int)).toNat = 160 * (σ.regs 4).toNat + k from by omega]
    have hpix : ∀ (n c : Int) (o : Spr × Int), n = groundI σ k → o = overI σ (σ.regs 4) k L → c = mixI σ n o → c = pixI σ L k := fun n c o e1 e2 e3 => by rw [e3, e1, e2]; rfl
    have hb1 := band_255 (σ.regs 4 + σ.regs 2)
    have hb2 := band_255 ((k : Int) + σ.regs 3)
    have hov := over_n p σ f hσ hfb xx1.1 xx1.2 L hL10 (σ.regs 4) k h4 (by omega) hLk
    have hti := fun high row col => tile_n p σ f hσ hfb high row col
    have hco := fun r n => colour_n p σ f hσ hfb r n
    (focus
      refine Xg.at_seq ?_
      refine Xg.at_region ?_
      refine Xg.ops_op (by kernel_rfl) (Xg.opx_pure (.bool (decide ((((↑k : Int)) : Int) < ((160 : Int))))) rfl (fun _ => by kernel_rfl) ?_)
      refine Xg.ops_nil ?_
      refine Xg.at_seq ?_
      refine Xg.at_true (t := decide (((↑k : Int) < (160 : Int)))) (by kernel_rfl) (decide_eq_true (by omega)) ?_
      refine Xg.at_skip ?_
      refine Xg.at_seq ?_
      refine Xg.at_block ?_
      refine Xg.at_seq ?_
      refine Xg.at_region ?_
      refine Xg.ops_op (by kernel_rfl) (Xg.opx_pure ((iv (↑k : Int))) rfl (fun _ => by kernel_rfl) ?_)
      refine Xg.ops_op (by kernel_rfl) (Xg.opx_pure ((iv (↑k : Int))) rfl (fun _ => by kernel_rfl) ?_)
      refine Xg.ops_nil ?_
      refine Xg.at_seq ?_
      refine Xg.at_region ?_
      refine Xg.ops_op (by kernel_rfl) (Xg.opx_pure ((iv 0)) rfl (fun _ => by kernel_rfl) ?_)
      refine Xg.ops_nil ?_
      refine Xg.at_seq ?_
      refine Xg.at_block ?_
      refine Xg.at_seq ?_
      refine Xg.at_region ?_
      refine Xg.ops_op (by kernel_rfl) (Xg.opx_pure ((pv p 0)) rfl (fun _ => by kernel_rfl) ?_)
      refine Xg.ops_op (by kernel_rfl) (Xg.opx_call1' [1] [PpR p (Pp.mk σ.regs σ.vram σ.oam σ.clock σ.seen σ.rows f σ.last), recsO (105 : Nat) (4 : Nat) sprC xx1.fst xx1.snd L] (fun _ => by kernel_rfl) (@h0c (f)) (by kernel_rfl) (by kernel_rfl) (by kernel_rfl) ?_)
      refine Xg.ops_op (by kernel_rfl) (Xg.opx_pure (.bool false) rfl (fun _ => by kernel_rfl) ?_)
      refine Xg.ops_op (by kernel_rfl) (Xg.opx_pure ((Value.bool false)) rfl (fun _ => by kernel_rfl) ?_)
      refine Xg.ops_nil ?_
      refine Xg.at_false (t := false) (by kernel_rfl) rfl ?_
      refine Xg.at_seq ?_
      refine Xg.at_region ?_
      refine Xg.ops_op (by kernel_rfl) (Xg.opx_pure ((Value.bool false)) rfl (fun _ => by kernel_rfl) ?_)
      refine Xg.ops_op (by kernel_rfl) (Xg.opx_pure ((Value.bool false)) rfl (fun _ => by kernel_rfl) ?_)
      refine Xg.ops_skip (by kernel_rfl) ?_
      refine Xg.ops_skip (by kernel_rfl) ?_
      refine Xg.ops_skip (by kernel_rfl) ?_
      refine Xg.ops_skip (by kernel_rfl) ?_
      refine Xg.ops_skip (by kernel_rfl) ?_
      refine Xg.ops_skip (by kernel_rfl) ?_
      refine Xg.ops_skip (by kernel_rfl) ?_
      refine Xg.ops_skip (by kernel_rfl) ?_
      refine Xg.ops_op (by kernel_rfl) (Xg.opx_pure ((Value.bool false)) rfl (fun _ => by kernel_rfl) ?_)
      refine Xg.ops_op (by kernel_rfl) (Xg.opx_pure ((Value.bool false)) rfl (fun _ => by kernel_rfl) ?_)
      refine Xg.ops_nil ?_
      refine Xg.at_false (t := false) (by kernel_rfl) rfl ?_
      refine Xg.at_draw [2, 19] [(8, [0, 1, 2, 3, 4, 5, 6, 7, 8, 11, 12, 13, 14, 15, 16, 17, 18], Xg.CellIs (p) (((2 : Nat))) ((iv (σ.regs 2)))), (16, [0, 1, 2, 3, 4, 5, 6, 7, 8, 9, 10, 11, 12, 13, 14, 15, 16], Xg.CellIs (p) (((3 : Nat))) ((iv (σ.regs 3))))] (by kernel_rfl) ?_
      refine Xg.any_pure ((pv p 0)) 0 (by kernel_rfl) rfl (by kernel_rfl) (by kernel_rfl) (by kernel_rfl) (by kernel_rfl) rfl (fun _ => by kernel_rfl) ?_
      refine Xg.any_pure ((pv p 0)) 1 (by kernel_rfl) rfl (by kernel_rfl) (by kernel_rfl) (by kernel_rfl) (by kernel_rfl) rfl (fun _ => by kernel_rfl) ?_
      refine Xg.any_pure ((iv (σ.regs 4))) 3 (by kernel_rfl) rfl (by kernel_rfl) (by kernel_rfl) (by kernel_rfl) (by kernel_rfl) rfl (fun _ => by kernel_rfl) ?_
      refine Xg.any_pure ((pv p 0)) 4 (by kernel_rfl) rfl (by kernel_rfl) (by kernel_rfl) (by kernel_rfl) (by kernel_rfl) rfl (fun _ => by kernel_rfl) ?_
      refine Xg.any_pure ((pv p 0)) 5 (by kernel_rfl) rfl (by kernel_rfl) (by kernel_rfl) (by kernel_rfl) (by kernel_rfl) rfl (fun _ => by kernel_rfl) ?_
      refine Xg.any_pure ((pv p 0)) 6 (by kernel_rfl) rfl (by kernel_rfl) (by kernel_rfl) (by kernel_rfl) (by kernel_rfl) rfl (fun _ => by kernel_rfl) ?_
      refine Xg.any_pure (pv p 2) 7 (by kernel_rfl) rfl (by kernel_rfl) (by kernel_rfl) (by kernel_rfl) (by kernel_rfl) rfl (fun _ => by kernel_rfl) ?_
      refine Xg.any_reads (iv (σ.regs 2)) 8 0 (by kernel_rfl) rfl (by kernel_rfl) (by kernel_rfl) (by kernel_rfl) (by kernel_rfl) rfl rfl (by kernel_rfl) (Xg.cell_now (b := p) (off := ((2 : Nat))) 0 rfl (@Go.Proofs.Ytkfclamiendamaa.g_regs ((Pp.mk σ.regs σ.vram σ.oam σ.clock σ.seen σ.rows f σ.last)) (((2 : Nat))) (by omega))) (fun _ h => Xg.run_load (by kernel_rfl) (by kernel_rfl) h) ?_
      refine Xg.any_int .i64 (IntKind.wrap .i64 ((σ.regs 4 + σ.regs 2))) 9 (by kernel_rfl) rfl (by kernel_rfl) (by kernel_rfl) (by kernel_rfl) (by kernel_rfl) rfl (fun _ => by kernel_rfl) (Xg.wrap_i64_in (by omega)) ?_
      refine Xg.any_pure (.int .i64 (Xg.band .i64 ((σ.regs 4 + σ.regs 2)) (((255 : Int))))) 10 (by kernel_rfl) rfl (by kernel_rfl) (by kernel_rfl) (by kernel_rfl) (by kernel_rfl) rfl (fun _ => by kernel_rfl) ?_
      refine Xg.any_pure ((iv (↑k : Int))) 11 (by kernel_rfl) rfl (by kernel_rfl) (by kernel_rfl) (by kernel_rfl) (by kernel_rfl) rfl (fun _ => by kernel_rfl) ?_
      refine Xg.any_pure ((pv p 0)) 12 (by kernel_rfl) rfl (by kernel_rfl) (by kernel_rfl) (by kernel_rfl) (by kernel_rfl) rfl (fun _ => by kernel_rfl) ?_
      refine Xg.any_pure ((pv p 0)) 13 (by kernel_rfl) rfl (by kernel_rfl) (by kernel_rfl) (by kernel_rfl) (by kernel_rfl) rfl (fun _ => by kernel_rfl) ?_
      refine Xg.any_pure ((pv p 0)) 14 (by kernel_rfl) rfl (by kernel_rfl) (by kernel_rfl) (by kernel_rfl) (by kernel_rfl) rfl (fun _ => by kernel_rfl) ?_
      refine Xg.any_pure (pv p 3) 15 (by kernel_rfl) rfl (by kernel_rfl) (by kernel_rfl) (by kernel_rfl) (by kernel_rfl) rfl (fun _ => by kernel_rfl) ?_
      refine Xg.any_reads (iv (σ.regs 3)) 16 1 (by kernel_rfl) rfl (by kernel_rfl) (by kernel_rfl) (by kernel_rfl) (by kernel_rfl) rfl rfl (by kernel_rfl) (Xg.cell_now (b := p) (off := ((3 : Nat))) 0 rfl (@Go.Proofs.Ytkfclamiendamaa.g_regs ((Pp.mk σ.regs σ.vram σ.oam σ.clock σ.seen σ.rows f σ.last)) (((3 : Nat))) (by omega))) (fun _ h => Xg.run_load (by kernel_rfl) (by kernel_rfl) h) ?_
      refine Xg.any_int .i64 (IntKind.wrap .i64 (((↑k : Int) + σ.regs 3))) 17 (by kernel_rfl) rfl (by kernel_rfl) (by kernel_rfl) (by kernel_rfl) (by kernel_rfl) rfl (fun _ => by kernel_rfl) (Xg.wrap_i64_in (by omega)) ?_
      refine Xg.any_pure (.int .i64 (Xg.band .i64 (((↑k : Int) + σ.regs 3)) (((255 : Int))))) 18 (by kernel_rfl) rfl (by kernel_rfl) (by kernel_rfl) (by kernel_rfl) (by kernel_rfl) rfl (fun _ => by kernel_rfl) ?_
      refine Xg.any_each [2] (by kernel_rfl) rfl ⟨?_, trivial⟩
      refine Xg.comes_act rfl (by kernel_rfl) (by kernel_rfl) (Xg.opx_call1' [0] [PpR p (Pp.mk σ.regs σ.vram σ.oam σ.clock σ.seen σ.rows f σ.last), recsO (105 : Nat) (4 : Nat) sprC xx1.fst xx1.snd L] (fun _ => by kernel_rfl) (@h3c (f)) (by kernel_rfl) (by kernel_rfl) (by kernel_rfl) ?_)
      refine Xg.acts (Xg.owes_cell 0 rfl (@Go.Proofs.Ytkfclamiendamaa.g_regs ((Pp.mk σ.regs σ.vram σ.oam σ.clock σ.seen σ.rows f σ.last)) (((2 : Nat))) (by omega)) (Xg.owes_cell 0 rfl (@Go.Proofs.Ytkfclamiendamaa.g_regs ((Pp.mk σ.regs σ.vram σ.oam σ.clock σ.seen σ.rows f σ.last)) (((3 : Nat))) (by omega)) Xg.owes_nil)) ?_
      refine Xg.any_each [19] (by kernel_rfl) rfl ⟨?_, trivial⟩
      refine Xg.comes_act rfl (by kernel_rfl) (by kernel_rfl) (Xg.opx_callE' [0] (fun xx2 => [PpR p (Pp.mk σ.regs σ.vram σ.oam σ.clock σ.seen σ.rows f σ.last), recsO (105 : Nat) (4 : Nat) sprC xx1.fst xx1.snd L]) (fun _ => by kernel_rfl) (@hti ((hasB (σ.regs 0) (3 : Nat))) ((band IntKind.i64 (σ.regs 4 + σ.regs 2) (255 : Int))) ((band IntKind.i64 ((↑k : Int) + σ.regs 3) (255 : Int))) (by omega) (by omega)) (by kernel_rfl) (by kernel_rfl) (by kernel_rfl) fun xx2 xh3 => ?_)
      try dsimp only at xh3
      obtain ⟨xh3_0, xh3_1, xh3_2⟩ := xh3
      refine Xg.acts (Xg.owes_skip (by kernel_rfl) (Xg.owes_skip (by kernel_rfl) Xg.owes_nil)) ?_
      refine Xg.any_pure ((iv xx2)) 20 (by kernel_rfl) rfl (by kernel_rfl) (by kernel_rfl) (by kernel_rfl) (by kernel_rfl) rfl (fun _ => by kernel_rfl) ?_
      refine Xg.any_nil (by kernel_rfl) ?_
      refine Xg.at_inBlock ?_
      refine Xg.at_seq ?_
      refine Xg.at_region ?_
      refine Xg.ops_op (by kernel_rfl) (Xg.opx_pure ((pv p 0)) rfl (fun _ => by kernel_rfl) ?_)
      refine Xg.ops_op (by kernel_rfl) (Xg.opx_pure ((iv xx2)) rfl (fun _ => by kernel_rfl) ?_)
      refine Xg.ops_op (by kernel_rfl) (Xg.opx_callE' [0] (fun xx3 => [PpR p (Pp.mk σ.regs σ.vram σ.oam σ.clock σ.seen σ.rows f σ.last), recsO (105 : Nat) (4 : Nat) sprC xx1.fst xx1.snd L]) (fun _ => by kernel_rfl) (@hco (((7 : Int))) (xx2) (by omega) (by omega)) (by kernel_rfl) (by kernel_rfl) (by kernel_rfl) fun xx3 xh4 => ?_)
      try dsimp only at xh4
      obtain ⟨xh4_0, xh4_1, xh4_2⟩ := xh4
      refine Xg.ops_op (by kernel_rfl) (Xg.opx_pure ((uv xx3)) rfl (fun _ => by kernel_rfl) ?_)
      refine Xg.ops_nil ?_
      refine Xg.at_seq ?_
      refine Xg.at_seq ?_
      refine Xg.at_region ?_
      refine Xg.ops_op (by kernel_rfl) (Xg.opx_pure ((pv p 0)) rfl (fun _ => by kernel_rfl) ?_)
      refine Xg.ops_op (by kernel_rfl) (Xg.opx_pure ((Value.slice xx1.fst L.length xx1.snd)) rfl (fun _ => by kernel_rfl) ?_)
      refine Xg.ops_op (by kernel_rfl) (Xg.opx_pure ((iv (σ.regs 4))) rfl (fun _ => by kernel_rfl) ?_)
      refine Xg.ops_op (by kernel_rfl) (Xg.opx_pure ((iv (↑k : Int))) rfl (fun _ => by kernel_rfl) ?_)
      refine Xg.ops_op (by kernel_rfl) (Xg.opx_callE' [1, 0] (fun xx4 => [recsO (105 : Nat) (4 : Nat) sprC xx1.fst xx1.snd L, PpR p (Pp.mk σ.regs σ.vram σ.oam σ.clock σ.seen σ.rows f σ.last)]) (fun _ => by kernel_rfl) (@hov ) (by kernel_rfl) (by kernel_rfl) (by kernel_rfl) fun xx4 xh5 => ?_)
      try dsimp only at xh5
      obtain ⟨xh5_0, xh5_1, xh5_2, xh5_3, xh5_4⟩ := xh5
      refine Xg.ops_op (by kernel_rfl) (Xg.opx_pure ((Value.tuple #[Value.agg #[iv xx4.fst.row, iv xx4.fst.column, iv xx4.fst.tile, iv xx4.fst.flags], iv xx4.snd])) rfl (fun _ => by kernel_rfl) ?_)
      refine Xg.ops_op (by kernel_rfl) (Xg.opx_pure ((Value.agg #[iv xx4.fst.row, iv xx4.fst.column, iv xx4.fst.tile, iv xx4.fst.flags])) rfl (fun _ => by kernel_rfl) ?_)
      refine Xg.ops_op (by kernel_rfl) (Xg.opx_pure ((iv xx4.snd)) rfl (fun _ => by kernel_rfl) ?_)
      refine Xg.ops_op (by kernel_rfl) (Xg.opx_new 4 [iv 0, iv 0, iv 0, iv 0] (by kernel_rfl) (by kernel_rfl) fun xb1 => ?_)
      refine Xg.ops_op (by kernel_rfl) (Xg.opx_storen 4 (off := 0) 0 [iv xx4.fst.row, iv xx4.fst.column, iv xx4.fst.tile, iv xx4.fst.flags] (by kernel_rfl) rfl (by kernel_rfl) (by kernel_rfl) rfl (by kernel_rfl) (Nat.le_of_ble_eq_true (by kernel_rfl)) ?_)
      refine Xg.ops_op (by kernel_rfl) (Xg.opx_pure ((iv xx4.snd)) rfl (fun _ => by kernel_rfl) ?_)
      refine Xg.ops_nil ?_
      refine Xg.at_seq ?_
      refine Xg.at_region ?_
      refine Xg.ops_op (by kernel_rfl) (Xg.opx_pure ((iv xx4.snd)) rfl (fun _ => by kernel_rfl) ?_)
      refine Xg.ops_op (by kernel_rfl) (Xg.opx_pure (.bool (decide ((xx4.snd : Int) > ((0 : Int))))) rfl (fun _ => by kernel_rfl) ?_)
      refine Xg.ops_op (by kernel_rfl) (Xg.opx_pure ((Value.bool (decide (xx4.snd > (0 : Int))))) rfl (fun _ => by kernel_rfl) ?_)
      refine Xg.ops_flag (j := 102) (c := (decide (xx4.snd > (0 : Int)))) (by kernel_rfl) (fun xh6 => ?_) (fun xh6 => ?_)
      replace xh6 : (xx4.snd > (0 : Int)) := of_decide_eq_true xh6
      rotate_left
      replace xh6 : ¬ ((xx4.snd > (0 : Int))) := of_decide_eq_false xh6
      rotate_right
      refine Xg.ops_op (by kernel_rfl) (Xg.opx_pure ((pv xb1 3)) rfl (fun _ => by kernel_rfl) ?_)
      refine Xg.ops_op (by kernel_rfl) (Xg.opx_load (b := xb1) (off := ((3 : Nat))) 0 (iv xx4.fst.flags) rfl (by kernel_rfl) (by kernel_rfl) (by kernel_rfl) ?_)
      refine Xg.ops_op (by kernel_rfl) (Xg.opx_pure (.int .i64 (Xg.band .i64 (xx4.fst.flags) (((128 : Int))))) rfl (fun _ => by kernel_rfl) ?_)
      refine Xg.ops_op (by kernel_rfl) (Xg.opx_pure (.bool (decide (((band IntKind.i64 xx4.fst.flags (128 : Int)) : Int) = ((0 : Int))))) rfl (fun _ => by kernel_rfl) ?_)
      refine Xg.ops_op (by kernel_rfl) (Xg.opx_pure ((Value.bool (decide (band IntKind.i64 xx4.fst.flags (128 : Int) = (0 : Int))))) rfl (fun _ => by kernel_rfl) ?_)
      refine Xg.ops_flag (j := 107) (c := (decide (band IntKind.i64 xx4.fst.flags (128 : Int) = (0 : Int)))) (by kernel_rfl) (fun xh7 => ?_) (fun xh7 => ?_)
      replace xh7 : (band IntKind.i64 xx4.fst.flags (128 : Int) = (0 : Int)) := of_decide_eq_true xh7
      rotate_left
      replace xh7 : ¬ ((band IntKind.i64 xx4.fst.flags (128 : Int) = (0 : Int))) := of_decide_eq_false xh7
      rotate_right
      refine Xg.ops_skip (by kernel_rfl) ?_
      refine Xg.ops_skip (by kernel_rfl) ?_
      refine Xg.ops_op (by kernel_rfl) (Xg.opx_pure ((Value.bool true)) rfl (fun _ => by kernel_rfl) ?_)
      refine Xg.ops_op (by kernel_rfl) (Xg.opx_pure ((Value.bool true)) rfl (fun _ => by kernel_rfl) ?_)
      refine Xg.ops_nil ?_
      refine Xg.at_true (t := true) (by kernel_rfl) rfl ?_
      refine Xg.at_region ?_
      refine Xg.ops_op (by kernel_rfl) (Xg.opx_pure ((pv p 0)) rfl (fun _ => by kernel_rfl) ?_)
      refine Xg.ops_op (by kernel_rfl) (Xg.opx_pure ((pv xb1 3)) rfl (fun _ => by kernel_rfl) ?_)
      refine Xg.ops_op (by kernel_rfl) (Xg.opx_load (b := xb1) (off := ((3 : Nat))) 0 (iv xx4.fst.flags) rfl (by kernel_rfl) (by kernel_rfl) (by kernel_rfl) ?_)
      refine Xg.ops_op (by kernel_rfl) (Xg.opx_int .i64 (Int.fdiv (xx4.fst.flags) 16) rfl (fun _ => by kernel_rfl) (Xg.shr_div _ 16 (by decide)) ?_)
      refine Xg.ops_op (by kernel_rfl) (Xg.opx_pure (.int .i64 (Xg.band .i64 ((xx4.fst.flags / (16 : Int))) (((1 : Int))))) rfl (fun _ => by kernel_rfl) ?_)
      refine Xg.ops_op (by kernel_rfl) (Xg.opx_int .i64 (IntKind.wrap .i64 (((8 : Int) + band IntKind.i64 (xx4.fst.flags / (16 : Int)) (1 : Int)))) rfl (fun _ => by kernel_rfl) (Xg.wrap_i64_in (by omega)) ?_)
      refine Xg.ops_op (by kernel_rfl) (Xg.opx_pure ((iv xx4.snd)) rfl (fun _ => by kernel_rfl) ?_)
      refine Xg.ops_op (by kernel_rfl) (Xg.opx_callE' [2] (fun xx5 => [PpR p (Pp.mk σ.regs σ.vram σ.oam σ.clock σ.seen σ.rows f σ.last), row xb1 (105 : Nat) [iv xx4.fst.row, iv xx4.fst.column, iv xx4.fst.tile, iv xx4.fst.flags], recsO (105 : Nat) (4 : Nat) sprC xx1.fst xx1.snd L]) (fun _ => by kernel_rfl) (@hco (((8 : Int) + band IntKind.i64 (xx4.fst.flags / (16 : Int)) (1 : Int))) (xx4.snd) (by omega) (by omega)) (by kernel_rfl) (by kernel_rfl) (by kernel_rfl) fun xx5 xh8 => ?_)
      try dsimp only at xh8
      obtain ⟨xh8_0, xh8_1, xh8_2⟩ := xh8
      refine Xg.ops_op (by kernel_rfl) (Xg.opx_pure ((uv xx5)) rfl (fun _ => by kernel_rfl) ?_)
      refine Xg.ops_nil ?_
      refine Xg.at_region ?_
      refine Xg.ops_op (by kernel_rfl) (Xg.opx_pure ((pv p 0)) rfl (fun _ => by kernel_rfl) ?_)
      refine Xg.ops_op (by kernel_rfl) (Xg.opx_pure ((iv (σ.regs 4))) rfl (fun _ => by kernel_rfl) ?_)
      refine Xg.ops_op (by kernel_rfl) (Xg.opx_int .i64 (IntKind.wrap .i64 (((160 : Int) * σ.regs 4))) rfl (fun _ => by kernel_rfl) (Xg.wrap_i64_in (by omega)) ?_)
      refine Xg.ops_op (by kernel_rfl) (Xg.opx_pure ((iv (↑k : Int))) rfl (fun _ => by kernel_rfl) ?_)
      refine Xg.ops_op (by kernel_rfl) (Xg.opx_int .i64 (IntKind.wrap .i64 (((160 : Int) * σ.regs 4 + (↑k : Int)))) rfl (fun _ => by kernel_rfl) (Xg.wrap_i64_in (by omega)) ?_)
      refine Xg.ops_op (by kernel_rfl) (Xg.opx_pure ((uv xx5)) rfl (fun _ => by kernel_rfl) ?_)
      refine Xg.ops_op (by kernel_rfl) (Xg.opx_pure ((pv p 0)) rfl (fun _ => by kernel_rfl) ?_)
      refine Xg.ops_op (by kernel_rfl) (Xg.opx_pure ((pv p 8367)) rfl (fun _ => by kernel_rfl) ?_)
      refine Xg.ops_op (by kernel_rfl) (Xg.opx_run (.pointer (some (Addr.mk p ((8367 : Nat) + ((160 : Int) * σ.regs 4 + (↑k : Int)).toNat) none))) rfl (Xg.run_ix_array' (elem := 5) (len := 23040) (b := p) (off := ((8367 : Nat))) (kd := .i64) (e := ((160 : Int) * σ.regs 4 + (↑k : Int))) 1 (((160 : Int) * σ.regs 4 + (↑k : Int)).toNat) ((8367 : Nat) + ((160 : Int) * σ.regs 4 + (↑k : Int)).toNat) (by kernel_rfl) (by kernel_rfl) (by kernel_rfl) (by kernel_rfl) (by omega) (by omega) (by omega)) ?_)
      refine Xg.ops_op (by kernel_rfl) (Xg.opx_store_c (off := ((8367 : Nat) + ((160 : Int) * σ.regs 4 + (↑k : Int)).toNat)) (cs' := (ppc (Pp.mk σ.regs σ.vram σ.oam σ.clock σ.seen σ.rows (upd f ((160 : Int) * σ.regs 4 + (↑k : Int)).toNat xx5) σ.last))) 0 (uv xx5) (by kernel_rfl) rfl (by kernel_rfl) (by kernel_rfl) (by kernel_rfl) (@Go.Proofs.Ytkfclamiendamaa.s_now ((Pp.mk σ.regs σ.vram σ.oam σ.clock σ.seen σ.rows f σ.last)) ((((160 : Int) * σ.regs 4 + (↑k : Int)).toNat)) (xx5) (by omega)) ?_)
      refine Xg.ops_nil ?_
      refine Xg.at_inBlock ?_
      refine Xg.at_region ?_
      refine Xg.ops_op (by kernel_rfl) (Xg.opx_int .i64 (IntKind.wrap .i64 (((↑k : Int) + (1 : Int)))) rfl (fun _ => by kernel_rfl) (Xg.wrap_i64_in (by omega)) ?_)
      refine Xg.ops_op (by kernel_rfl) (Xg.opx_pure ((iv ((↑k : Int) + (1 : Int)))) rfl (fun _ => by kernel_rfl) ?_)
      refine Xg.ops_nil ?_
      refine Xg.at_inLoop ?_
      rotate_left
      refine Xg.ops_op (by kernel_rfl) (Xg.opx_pure ((iv xx2)) rfl (fun _ => by kernel_rfl) ?_)
      refine Xg.ops_op (by kernel_rfl) (Xg.opx_pure (.bool (decide ((xx2 : Int) = ((0 : Int))))) rfl (fun _ => by kernel_rfl) ?_)
      refine Xg.ops_flag (j := 109) (c := (decide (xx2 = (0 : Int)))) (by kernel_rfl) (fun xh8 => ?_) (fun xh8 => ?_)
      replace xh8 : (xx2 = (0 : Int)) := of_decide_eq_true xh8
      rotate_left
      replace xh8 : ¬ ((xx2 = (0 : Int))) := of_decide_eq_false xh8
      rotate_right
      refine Xg.ops_op (by kernel_rfl) (Xg.opx_pure ((Value.bool true)) rfl (fun _ => by kernel_rfl) ?_)
      refine Xg.ops_op (by kernel_rfl) (Xg.opx_pure ((Value.bool true)) rfl (fun _ => by kernel_rfl) ?_)
      refine Xg.ops_nil ?_
      refine Xg.at_true (t := true) (by kernel_rfl) rfl ?_
      refine Xg.at_region ?_
      refine Xg.ops_op (by kernel_rfl) (Xg.opx_pure ((pv p 0)) rfl (fun _ => by kernel_rfl) ?_)
      refine Xg.ops_op (by kernel_rfl) (Xg.opx_pure ((pv xb1 3)) rfl (fun _ => by kernel_rfl) ?_)
      refine Xg.ops_op (by kernel_rfl) (Xg.opx_load (b := xb1) (off := ((3 : Nat))) 0 (iv xx4.fst.flags) rfl (by kernel_rfl) (by kernel_rfl) (by kernel_rfl) ?_)
      refine Xg.ops_op (by kernel_rfl) (Xg.opx_int .i64 (Int.fdiv (xx4.fst.flags) 16) rfl (fun _ => by kernel_rfl) (Xg.shr_div _ 16 (by decide)) ?_)
      refine Xg.ops_op (by kernel_rfl) (Xg.opx_pure (.int .i64 (Xg.band .i64 ((xx4.fst.flags / (16 : Int))) (((1 : Int))))) rfl (fun _ => by kernel_rfl) ?_)
      refine Xg.ops_op (by kernel_rfl) (Xg.opx_int .i64 (IntKind.wrap .i64 (((8 : Int) + band IntKind.i64 (xx4.fst.flags / (16 : Int)) (1 : Int)))) rfl (fun _ => by kernel_rfl) (Xg.wrap_i64_in (by omega)) ?_)
      refine Xg.ops_op (by kernel_rfl) (Xg.opx_pure ((iv xx4.snd)) rfl (fun _ => by kernel_rfl) ?_)
      refine Xg.ops_op (by kernel_rfl) (Xg.opx_callE' [2] (fun xx5 => [PpR p (Pp.mk σ.regs σ.vram σ.oam σ.clock σ.seen σ.rows f σ.last), row xb1 (105 : Nat) [iv xx4.fst.row, iv xx4.fst.column, iv xx4.fst.tile, iv xx4.fst.flags], recsO (105 : Nat) (4 : Nat) sprC xx1.fst xx1.snd L]) (fun _ => by kernel_rfl) (@hco (((8 : Int) + band IntKind.i64 (xx4.fst.flags / (16 : Int)) (1 : Int))) (xx4.snd) (by omega) (by omega)) (by kernel_rfl) (by kernel_rfl) (by kernel_rfl) fun xx5 xh9 => ?_)
      try dsimp only at xh9
      obtain ⟨xh9_0, xh9_1, xh9_2⟩ := xh9
      refine Xg.ops_op (by kernel_rfl) (Xg.opx_pure ((uv xx5)) rfl (fun _ => by kernel_rfl) ?_)
      refine Xg.ops_nil ?_
      refine Xg.at_region ?_
      refine Xg.ops_op (by kernel_rfl) (Xg.opx_pure ((pv p 0)) rfl (fun _ => by kernel_rfl) ?_)
      refine Xg.ops_op (by kernel_rfl) (Xg.opx_pure ((iv (σ.regs 4))) rfl (fun _ => by kernel_rfl) ?_)
      refine Xg.ops_op (by kernel_rfl) (Xg.opx_int .i64 (IntKind.wrap .i64 (((160 : Int) * σ.regs 4))) rfl (fun _ => by kernel_rfl) (Xg.wrap_i64_in (by omega)) ?_)
      refine Xg.ops_op (by kernel_rfl) (Xg.opx_pure ((iv (↑k : Int))) rfl (fun _ => by kernel_rfl) ?_)
      refine Xg.ops_op (by kernel_rfl) (Xg.opx_int .i64 (IntKind.wrap .i64 (((160 : Int) * σ.regs 4 + (↑k : Int)))) rfl (fun _ => by kernel_rfl) (Xg.wrap_i64_in (by omega)) ?_)
      refine Xg.ops_op (by kernel_rfl) (Xg.opx_pure ((uv xx5)) rfl (fun _ => by kernel_rfl) ?_)
      refine Xg.ops_op (by kernel_rfl) (Xg.opx_pure ((pv p 0)) rfl (fun _ => by kernel_rfl) ?_)
      refine Xg.ops_op (by kernel_rfl) (Xg.opx_pure ((pv p 8367)) rfl (fun _ => by kernel_rfl) ?_)
      refine Xg.ops_op (by kernel_rfl) (Xg.opx_run (.pointer (some (Addr.mk p ((8367 : Nat) + ((160 : Int) * σ.regs 4 + (↑k : Int)).toNat) none))) rfl (Xg.run_ix_array' (elem := 5) (len := 23040) (b := p) (off := ((8367 : Nat))) (kd := .i64) (e := ((160 : Int) * σ.regs 4 + (↑k : Int))) 1 (((160 : Int) * σ.regs 4 + (↑k : Int)).toNat) ((8367 : Nat) + ((160 : Int) * σ.regs 4 + (↑k : Int)).toNat) (by kernel_rfl) (by kernel_rfl) (by kernel_rfl) (by kernel_rfl) (by omega) (by omega) (by omega)) ?_)
      refine Xg.ops_op (by kernel_rfl) (Xg.opx_store_c (off := ((8367 : Nat) + ((160 : Int) * σ.regs 4 + (↑k : Int)).toNat)) (cs' := (ppc (Pp.mk σ.regs σ.vram σ.oam σ.clock σ.seen σ.rows (upd f ((160 : Int) * σ.regs 4 + (↑k : Int)).toNat xx5) σ.last))) 0 (uv xx5) (by kernel_rfl) rfl (by kernel_rfl) (by kernel_rfl) (by kernel_rfl) (@Go.Proofs.Ytkfclamiendamaa.s_now ((Pp.mk σ.regs σ.vram σ.oam σ.clock σ.seen σ.rows f σ.last)) ((((160 : Int) * σ.regs 4 + (↑k : Int)).toNat)) (xx5) (by omega)) ?_)
      refine Xg.ops_nil ?_
      refine Xg.at_inBlock ?_
      refine Xg.at_region ?_
      refine Xg.ops_op (by kernel_rfl) (Xg.opx_int .i64 (IntKind.wrap .i64 (((↑k : Int) + (1 : Int)))) rfl (fun _ => by kernel_rfl) (Xg.wrap_i64_in (by omega)) ?_)
      refine Xg.ops_op (by kernel_rfl) (Xg.opx_pure ((iv ((↑k : Int) + (1 : Int)))) rfl (fun _ => by kernel_rfl) ?_)
      refine Xg.ops_nil ?_
      refine Xg.at_inLoop ?_
      rotate_left
      refine Xg.ops_op (by kernel_rfl) (Xg.opx_pure ((Value.bool false)) rfl (fun _ => by kernel_rfl) ?_)
      refine Xg.ops_op (by kernel_rfl) (Xg.opx_pure ((Value.bool false)) rfl (fun _ => by kernel_rfl) ?_)
      refine Xg.ops_nil ?_
      refine Xg.at_false (t := false) (by kernel_rfl) rfl ?_
      refine Xg.at_skip ?_
      refine Xg.at_region ?_
      refine Xg.ops_op (by kernel_rfl) (Xg.opx_pure ((pv p 0)) rfl (fun _ => by kernel_rfl) ?_)
      refine Xg.ops_op (by kernel_rfl) (Xg.opx_pure ((iv (σ.regs 4))) rfl (fun _ => by kernel_rfl) ?_)
      refine Xg.ops_op (by kernel_rfl) (Xg.opx_int .i64 (IntKind.wrap .i64 (((160 : Int) * σ.regs 4))) rfl (fun _ => by kernel_rfl) (Xg.wrap_i64_in (by omega)) ?_)
      refine Xg.ops_op (by kernel_rfl) (Xg.opx_pure ((iv (↑k : Int))) rfl (fun _ => by kernel_rfl) ?_)
      refine Xg.ops_op (by kernel_rfl) (Xg.opx_int .i64 (IntKind.wrap .i64 (((160 : Int) * σ.regs 4 + (↑k : Int)))) rfl (fun _ => by kernel_rfl) (Xg.wrap_i64_in (by omega)) ?_)
      refine Xg.ops_op (by kernel_rfl) (Xg.opx_pure ((uv xx3)) rfl (fun _ => by kernel_rfl) ?_)
      refine Xg.ops_op (by kernel_rfl) (Xg.opx_pure ((pv p 0)) rfl (fun _ => by kernel_rfl) ?_)
      refine Xg.ops_op (by kernel_rfl) (Xg.opx_pure ((pv p 8367)) rfl (fun _ => by kernel_rfl) ?_)
      refine Xg.ops_op (by kernel_rfl) (Xg.opx_run (.pointer (some (Addr.mk p ((8367 : Nat) + ((160 : Int) * σ.regs 4 + (↑k : Int)).toNat) none))) rfl (Xg.run_ix_array' (elem := 5) (len := 23040) (b := p) (off := ((8367 : Nat))) (kd := .i64) (e := ((160 : Int) * σ.regs 4 + (↑k : Int))) 1 (((160 : Int) * σ.regs 4 + (↑k : Int)).toNat) ((8367 : Nat) + ((160 : Int) * σ.regs 4 + (↑k : Int)).toNat) (by kernel_rfl) (by kernel_rfl) (by kernel_rfl) (by kernel_rfl) (by omega) (by omega) (by omega)) ?_)
      refine Xg.ops_op (by kernel_rfl) (Xg.opx_store_c (off := ((8367 : Nat) + ((160 : Int) * σ.regs 4 + (↑k : Int)).toNat)) (cs' := (ppc (Pp.mk σ.regs σ.vram σ.oam σ.clock σ.seen σ.rows (upd f ((160 : Int) * σ.regs 4 + (↑k : Int)).toNat xx3) σ.last))) 2 (uv xx3) (by kernel_rfl) rfl (by kernel_rfl) (by kernel_rfl) (by kernel_rfl) (@Go.Proofs.Ytkfclamiendamaa.s_now ((Pp.mk σ.regs σ.vram σ.oam σ.clock σ.seen σ.rows f σ.last)) ((((160 : Int) * σ.regs 4 + (↑k : Int)).toNat)) (xx3) (by omega)) ?_)
      refine Xg.ops_nil ?_
      refine Xg.at_inBlock ?_
      refine Xg.at_region ?_
      refine Xg.ops_op (by kernel_rfl) (Xg.opx_int .i64 (IntKind.wrap .i64 (((↑k : Int) + (1 : Int)))) rfl (fun _ => by kernel_rfl) (Xg.wrap_i64_in (by omega)) ?_)
      refine Xg.ops_op (by kernel_rfl) (Xg.opx_pure ((iv ((↑k : Int) + (1 : Int)))) rfl (fun _ => by kernel_rfl) ?_)
      refine Xg.ops_nil ?_
      refine Xg.at_inLoop ?_
      rotate_left
      refine Xg.ops_skip (by kernel_rfl) ?_
      refine Xg.ops_skip (by kernel_rfl) ?_
      refine Xg.ops_skip (by kernel_rfl) ?_
      refine Xg.ops_skip (by kernel_rfl) ?_
      refine Xg.ops_skip (by kernel_rfl) ?_
      refine Xg.ops_skip (by kernel_rfl) ?_
      refine Xg.ops_skip (by kernel_rfl) ?_
      refine Xg.ops_skip (by kernel_rfl) ?_
      refine Xg.ops_op (by kernel_rfl) (Xg.opx_pure ((Value.bool false)) rfl (fun _ => by kernel_rfl) ?_)
      refine Xg.ops_nil ?_
      refine Xg.at_false (t := false) (by kernel_rfl) rfl ?_
      refine Xg.at_skip ?_
      refine Xg.at_region ?_
      refine Xg.ops_op (by kernel_rfl) (Xg.opx_pure ((pv p 0)) rfl (fun _ => by kernel_rfl) ?_)
      refine Xg.ops_op (by kernel_rfl) (Xg.opx_pure ((iv (σ.regs 4))) rfl (fun _ => by kernel_rfl) ?_)
      refine Xg.ops_op (by kernel_rfl) (Xg.opx_int .i64 (IntKind.wrap .i64 (((160 : Int) * σ.regs 4))) rfl (fun _ => by kernel_rfl) (Xg.wrap_i64_in (by omega)) ?_)
      refine Xg.ops_op (by kernel_rfl) (Xg.opx_pure ((iv (↑k : Int))) rfl (fun _ => by kernel_rfl) ?_)
      refine Xg.ops_op (by kernel_rfl) (Xg.opx_int .i64 (IntKind.wrap .i64 (((160 : Int) * σ.regs 4 + (↑k : Int)))) rfl (fun _ => by kernel_rfl) (Xg.wrap_i64_in (by omega)) ?_)
      refine Xg.ops_op (by kernel_rfl) (Xg.opx_pure ((uv xx3)) rfl (fun _ => by kernel_rfl) ?_)
      refine Xg.ops_op (by kernel_rfl) (Xg.opx_pure ((pv p 0)) rfl (fun _ => by kernel_rfl) ?_)
      refine Xg.ops_op (by kernel_rfl) (Xg.opx_pure ((pv p 8367)) rfl (fun _ => by kernel_rfl) ?_)
      refine Xg.ops_op (by kernel_rfl) (Xg.opx_run (.pointer (some (Addr.mk p ((8367 : Nat) + ((160 : Int) * σ.regs 4 + (↑k : Int)).toNat) none))) rfl (Xg.run_ix_array' (elem := 5) (len := 23040) (b := p) (off := ((8367 : Nat))) (kd := .i64) (e := ((160 : Int) * σ.regs 4 + (↑k : Int))) 1 (((160 : Int) * σ.regs 4 + (↑k : Int)).toNat) ((8367 : Nat) + ((160 : Int) * σ.regs 4 + (↑k : Int)).toNat) (by kernel_rfl) (by kernel_rfl) (by kernel_rfl) (by kernel_rfl) (by omega) (by omega) (by omega)) ?_)
      refine Xg.ops_op (by kernel_rfl) (Xg.opx_store_c (off := ((8367 : Nat) + ((160 : Int) * σ.regs 4 + (↑k : Int)).toNat)) (cs' := (ppc (Pp.mk σ.regs σ.vram σ.oam σ.clock σ.seen σ.rows (upd f ((160 : Int) * σ.regs 4 + (↑k : Int)).toNat xx3) σ.last))) 2 (uv xx3) (by kernel_rfl) rfl (by kernel_rfl) (by kernel_rfl) (by kernel_rfl) (@Go.Proofs.Ytkfclamiendamaa.s_now ((Pp.mk σ.regs σ.vram σ.oam σ.clock σ.seen σ.rows f σ.last)) ((((160 : Int) * σ.regs 4 + (↑k : Int)).toNat)) (xx3) (by omega)) ?_)
      refine Xg.ops_nil ?_
      refine Xg.at_inBlock ?_
      refine Xg.at_region ?_
      refine Xg.ops_op (by kernel_rfl) (Xg.opx_int .i64 (IntKind.wrap .i64 (((↑k : Int) + (1 : Int)))) rfl (fun _ => by kernel_rfl) (Xg.wrap_i64_in (by omega)) ?_)
      refine Xg.ops_op (by kernel_rfl) (Xg.opx_pure ((iv ((↑k : Int) + (1 : Int)))) rfl (fun _ => by kernel_rfl) ?_)
      refine Xg.ops_nil ?_
      refine Xg.at_inLoop ?_)
    · (focus
        refine Xg.at_keep [1, 2] (by kernel_rfl) ?_
        refine Xs.same ?_ (fun J9 => ih (((k + 1, upd f (160 * σ.regs 4 + (k : Int)).toNat xx3)), J9) ?_ ?_) (by kernel_rfl))
      · rfl
      · exact ⟨by dsimp only; omega, hfin _ (hpix xx2 _ xx4 (by unfold groundI; rw [if_pos b0, if_neg (by simp [hw]), show xx2 = tileI σ _ _ _ from by assumption, hb1, hb2]) (by assumption) (by rw [mixI, if_neg (fun h => by omega)]; exact (show xx3 = palI σ 7 xx2 from by assumption)))⟩
      · dsimp only; omega
    · (focus
        refine Xg.at_keep [2, 0] (by kernel_rfl) ?_
        refine Xs.same ?_ (fun J9 => ih (((k + 1, upd f (160 * σ.regs 4 + (k : Int)).toNat xx5)), J9) ?_ ?_) (by kernel_rfl))
      · rfl
      · exact ⟨by dsimp only; omega, hfin _ (hpix xx2 _ xx4 (by unfold groundI; rw [if_pos b0, if_neg (by simp [hw]), show xx2 = tileI σ _ _ _ from by assumption, hb1, hb2]) (by assumption) (by rw [mixI, if_pos (by omega), show xx5 = palI σ (8 + band .i64 (xx4.1.flags / 16) 1) xx4.2 from by assumption, show band .i64 (xx4.1.flags / 16) 1 = xx4.1.flags / 16 % 2 from by assumption]))⟩
      · dsimp only; omega
    · (focus
        refine Xg.at_keep [2, 0] (by kernel_rfl) ?_
        refine Xs.same ?_ (fun J9 => ih (((k + 1, upd f (160 * σ.regs 4 + (k : Int)).toNat xx5)), J9) ?_ ?_) (by kernel_rfl))
      · rfl
      · exact ⟨by dsimp only; omega, hfin _ (hpix xx2 _ xx4 (by unfold groundI; rw [if_pos b0, if_neg (by simp [hw]), show xx2 = tileI σ _ _ _ from by assumption, hb1, hb2]) (by assumption) (by rw [mixI, if_pos (by omega), show xx5 = palI σ (8 + band .i64 (xx4.1.flags / 16) 1) xx4.2 from by assumption, show band .i64 (xx4.1.flags / 16) 1 = xx4.1.flags / 16 % 2 from by assumption]))⟩
      · dsimp only; omega
    · (focus
        refine Xg.at_keep [1, 2] (by kernel_rfl) ?_
        refine Xs.same ?_ (fun J9 => ih (((k + 1, upd f (160 * σ.regs 4 + (k : Int)).toNat xx3)), J9) ?_ ?_) (by kernel_rfl))
      · rfl
      · exact ⟨by dsimp only; omega, hfin _ (hpix xx2 _ xx4 (by unfold groundI; rw [if_pos b0, if_neg (by simp [hw]), show xx2 = tileI σ _ _ _ from by assumption, hb1, hb2]) (by assumption) (by rw [mixI, if_neg (fun h => by omega)]; exact (show xx3 = palI σ 7 xx2 from by assumption)))⟩
      · dsimp only; omega
  · clear ih
    have hkn : k = 160 := by omega
    subst hkn
    subst hf
    (focus
      refine Xg.at_seq ?_
      refine Xg.at_region ?_
      refine Xg.ops_op (by kernel_rfl) (Xg.opx_pure ((Value.bool false)) rfl (fun _ => by kernel_rfl) ?_)
      refine Xg.ops_nil ?_
      refine Xg.at_seq ?_
      refine Xg.at_false (t := false) (by kernel_rfl) rfl ?_
      refine Xg.at_exit rfl ?_
      refine Xg.at_seq ?_
      refine Xg.at_region ?_
      refine Xg.ops_op (by kernel_rfl) (Xg.opx_pure ((Value.bool false)) rfl (fun _ => by kernel_rfl) ?_)
      refine Xg.ops_nil ?_
      refine Xg.at_false (t := false) (by kernel_rfl) rfl ?_
      refine Xg.at_skip ?_
      refine Xg.at_end_ps (v := (tu)) [1] [PpR p (Pp.mk σ.regs σ.vram σ.oam σ.clock σ.seen σ.rows (drawF σ L (160 : Nat)) σ.last)] Go.Proofs.Try.func59 (fun _ => by kernel_rfl) (by kernel_rfl) (by kernel_rfl) ?_
      exact ⟨by kernel_rfl, by kernel_rfl⟩)


end Go.Proofs.Ytkfclamiendamaa
