/- The law PpuPure: what it does. -/
import Derived.Test.YtkfclamiendamaaKV35
import Derived.Test.YtkfclamiendamaaKS
namespace Go.Proofs.Ytkfclamiendamaa
open Go.Sl Go.Xg
set_option linter.unusedVariables false
set_option linter.unusedSimpArgs false
set_option maxHeartbeats 4000000
set_option maxRecDepth 100000

theorem putB_hi (V : Nat → Int) (x : Pc) (k i : Nat) (hi : 8192 ≤ i) : putB V x k i = V i := by
  induction k with
  | zero => rfl
  | succ k ih =>
    have hb := spotI_bd x.at0 k
    rw [putB]
    split
    · rw [upd_ne (by omega)]; exact ih
    · exact ih
theorem putP_hi (V : Nat → Int) (l : List Pc) (k i : Nat) (hi : 8192 ≤ i) : putP V l k i = V i := by
  induction k with
  | zero => rfl
  | succ k ih => rw [putP, putB_hi _ _ _ _ hi]; exact ih
/-- Beyond VRAM there is nothing. -/
structure Hz (σ : Pp) : Prop where
  ok : σ.Ok
  hi : ∀ i, 8192 ≤ i → σ.vram i = 0
theorem hz_tick {σ : Pp} (h : Hz σ) : Hz (tickP σ) := ⟨ok_tick h.ok, by
  unfold tickP
  split
  · rw [next_vram]; exact h.hi
  · exact h.hi⟩
theorem hz_done {s : Sn} {τ : Pp} (h : Done s newP.vram τ) : Hz τ := ⟨h.ok, fun i hi => by rw [h.vram, putP_hi _ _ _ _ hi]; rfl⟩
theorem hz_off {σ : Pp} (h : Hz σ) : Off σ.vram (writeP σ 65344 0) := off_0 h.ok

theorem ticks_next (σ : Pp) (i : Nat) : ticks (i + 1) σ = tickP (ticks i σ) := rfl
/-- Behind a frame there is the next one. -/
theorem at4_ticks {σ : Pp} (h : At4 0 σ) (i : Nat) : At4 i (ticks i σ) := by
  induction i with
  | zero => exact h
  | succ i ih => exact at4_next ih
theorem keep_ticks {σ : Pp} (h : At4 0 σ) (i : Nat) : (∀ r, r ≠ 4 → (ticks i σ).regs r = σ.regs r) ∧ (ticks i σ).vram = σ.vram ∧ (ticks i σ).oam = σ.oam := by
  induction i with
  | zero => exact ⟨fun _ _ => rfl, rfl, rfl⟩
  | succ i ih =>
    rw [ticks_next, tick_on (at4_ticks h i).on]
    exact ⟨fun r hr => (next_regs _ r hr).trans (ih.1 r hr), (next_vram _).trans ih.2.1, (next_oam _).trans ih.2.2⟩
theorem frame_next {s : Sn} {V : Nat → Int} {σ : Pp} (h : Done s V σ) : Done s V (ticks 17556 σ) := by
  have h0 := done_at4 h
  have k := keep_ticks h0 17556
  have a := at4_ticks h0 17556
  have b := at4_ticks h0 17555
  have e : ticks 17556 σ = begP (lyP (ticks 17555 σ)) := by
    rw [ticks_next, tick_on b.on]
    have c1 := b.clk
    have c2 := b.ly
    generalize ticks 17555 σ = τ at b c1 c2
    unfold nextP
    rw [if_neg (by omega), if_neg (by omega), if_pos (by omega), if_neg (by omega), if_pos (by omega)]
  refine ⟨a.ok, (k.1 0 (by omega)).trans h.r0, fun i hi => (k.1 i (by omega)).trans (h.r1 i hi), ?_, ?_, ?_, ?_, k.2.1.trans h.vram, fun i hi => by rw [k.2.2]; exact h.oam i hi⟩
  · rw [a.ly]; rfl
  · rw [a.clk]; rfl
  · rw [e]; rfl
  · rw [e]; rfl
theorem shot_same {s : Sn} {xs ys : List Int} (h : Shot s xs) (h2 : Shot s ys) : xs = ys := by
  apply List.ext_getElem (by rw [h.len, h2.len])
  intro i hi1 hi2
  have hi : i < 23040 := by rw [← h.len]; exact hi1
  have e1 := h.pic (i / 160) (i % 160) (by omega) (by omega)
  have e2 := h2.pic (i / 160) (i % 160) (by omega) (by omega)
  rw [split_i] at e1 e2
  have := e1.trans e2.symm
  simpa [List.getD, hi1, hi2] using this

theorem ticks_add (a b : Nat) (σ : Pp) : ticks (a + b) σ = ticks a (ticks b σ) := by
  induction a with
  | zero => rw [Nat.zero_add]; rfl
  | succ a ih => rw [Nat.succ_add, ticks_next, ticks_next, ih]
/-- A frame's Ticks, which nothing unfolds. -/
noncomputable def T16 : Pp → Pp := Classical.choose (⟨ticks 16416, rfl⟩ : ∃ f : Pp → Pp, f = ticks 16416)
theorem T16_eq : T16 = ticks 16416 := Classical.choose_spec (⟨ticks 16416, rfl⟩ : ∃ f : Pp → Pp, f = ticks 16416)
theorem T16_ok {σ : Pp} (h : σ.Ok) : (T16 σ).Ok := by rw [T16_eq]; exact ok_ticks h _
theorem T16_next {s : Sn} {V : Nat → Int} {σ : Pp} (h : Done s V σ) : Done s V (ticks 1140 (T16 σ)) := by
  have e : ticks 17556 σ = ticks 1140 (ticks 16416 σ) := ticks_add 1140 16416 σ
  rw [T16_eq, ← e]
  exact frame_next h
theorem one_h (s : Sn) (p : Nat) (σ : Pp) (hd : Done s newP.vram σ) : Does Try.prog 39 [pt p] [PpR p σ] (RetE (fun x : Option Addr × Nat × List Int => Shot s x.2.2 ∧ x.2.2.length = 23040) (fun x => .slice x.1 x.2.2.length x.2.1) (fun x => [ints 5 .u8 x.1 x.2.1 x.2.2, PpR p (T16 σ)])) :=
  (one_d p σ (T16 σ) hd.ok (by rw [T16_eq])).mono fun _ _ ⟨x, ⟨h1, h2⟩, e1, e2⟩ => ⟨x, ⟨shot_of hd h1 (by rw [T16_eq] at h2; exact h2), h1⟩, e1, e2⟩
theorem sEq_refl (xs : List Int) : sEq xs xs = true := by simp [sEq]
/-- VRAM is emptied. -/
structure Zr (i : Nat) (τ : Pp) : Prop where
  ok : τ.Ok
  off : hasB (τ.regs 0) 7 = false
  z : ∀ j, j < i ∨ 8192 ≤ j → τ.vram j = 0
theorem zr_next {i : Nat} {τ : Pp} (h : Zr i τ) (hi : i < 8192) : Zr (i + 1) (writeP τ (32768 + (i : Int)) 0) := by
  have o := off_v (V := τ.vram) ⟨h.ok, h.off, rfl⟩ (32768 + (i : Int)) 0 (by omega) (by omega)
  refine ⟨o.ok, o.off, fun j hj => ?_⟩
  rw [o.vram, if_pos (by omega), show (32768 + (i : Int) - 32768).toNat = i from by omega]
  by_cases e : j = i
  · subst e; exact upd_same _ _ _
  · rw [upd_ne e]; exact h.z j (by omega)
theorem zr_zero {τ : Pp} (h : Hz τ) : Zr 0 (writeP τ 65344 0) := by
  have o := off_0 h.ok
  exact ⟨o.ok, o.off, fun j hj => by rw [o.vram]; exact h.hi j (by omega)⟩
theorem zr_all {τ : Pp} (h : Zr 8192 τ) : newP.vram = τ.vram := by
  funext j
  rw [h.z j (by omega)]
  rfl

set_option maxHeartbeats 0 in
theorem ppure_d (A : HP) (s : Sn) (hs : s.Ok A) (t : Sn) (ht : t.Ok A) (n : Int) (hn : i64ok n) : Does Try.prog 12 [snV s, snV t, .int .i64 n] [A] (Ret (.bool true) [A]) := by
  have hsh := shot_d A s hs
  have hnew : Does Try.prog 21 [] [] (RetE (fun x : Nat => True) (fun x => pt x) (fun x => [PpR x newP])) := new_d
  have hset : ∀ p, Does Try.prog 37 [snV t, pt p] [A, PpR p newP] (RetE (fun x : Pp => Done t newP.vram x) (fun x => .tuple #[]) (fun x => [A, PpR p x])) := fun p => set_s A t ht p newP ok_new newP.vram rfl
  (focus
    refine Xg.spec_of Go.Proofs.Try.func12 rfl Go.Proofs.Try.ntmps12 fun g F => ?_)
  (focus
    refine Xg.at_seq ?_
    refine Xg.at_region ?_
    refine Xg.ops_op (by kernel_rfl) (Xg.opx_box (v := (Value.agg #[Value.slice s.ra s.rn s.rc, Value.slice s.oa s.on s.oc, Value.slice s.pa s.pn s.pc])) [Value.slice s.ra s.rn s.rc, Value.slice s.oa s.on s.oc, Value.slice s.pa s.pn s.pc] (by kernel_rfl) (by kernel_rfl) fun xb1 => ?_)
    refine Xg.ops_op (by kernel_rfl) (Xg.opx_box (v := (Value.agg #[Value.slice t.ra t.rn t.rc, Value.slice t.oa t.on t.oc, Value.slice t.pa t.pn t.pc])) [Value.slice t.ra t.rn t.rc, Value.slice t.oa t.on t.oc, Value.slice t.pa t.pn t.pc] (by kernel_rfl) (by kernel_rfl) fun xb2 => ?_)
    refine Xg.ops_op (by kernel_rfl) (Xg.opx_pure ((Value.bool false)) rfl (fun _ => by kernel_rfl) ?_)
    refine Xg.ops_nil ?_
    refine Xg.at_seq ?_
    refine Xg.at_region ?_
    refine Xg.ops_op (by kernel_rfl) (Xg.opx_loadn (off := 0) 3 1 [Value.slice s.ra s.rn s.rc, Value.slice s.oa s.on s.oc, Value.slice s.pa s.pn s.pc] (by kernel_rfl) rfl (by kernel_rfl) rfl (Xg.cells_at (by kernel_rfl)) (by kernel_rfl) ?_)
    refine Xg.ops_op (by kernel_rfl) (Xg.opx_callE' [2] (fun xx1 => [ints (5 : TypeId) IntKind.u8 xx1.fst xx1.snd.fst xx1.snd.snd, A, row xb2 (36 : Nat) [Value.slice t.ra t.rn t.rc, Value.slice t.oa t.on t.oc, Value.slice t.pa t.pn t.pc], row xb1 (36 : Nat) [Value.slice s.ra s.rn s.rc, Value.slice s.oa s.on s.oc, Value.slice s.pa s.pn s.pc]]) (fun _ => by kernel_rfl) (@hsh ) (by kernel_rfl) (by kernel_rfl) (by kernel_rfl) fun xx1 xh1 => ?_)
    try dsimp only at xh1
    obtain ⟨xh1_0, xh1_1⟩ := xh1
    refine Xg.ops_op (by kernel_rfl) (Xg.opx_pure ((Value.tuple #[Value.slice xx1.fst xx1.snd.snd.length xx1.snd.fst, Value.bool true])) rfl (fun _ => by kernel_rfl) ?_)
    refine Xg.ops_op (by kernel_rfl) (Xg.opx_pure ((Value.slice xx1.fst xx1.snd.snd.length xx1.snd.fst)) rfl (fun _ => by kernel_rfl) ?_)
    refine Xg.ops_op (by kernel_rfl) (Xg.opx_pure ((Value.bool true)) rfl (fun _ => by kernel_rfl) ?_)
    refine Xg.ops_op (by kernel_rfl) (Xg.opx_pure ((Value.slice xx1.fst xx1.snd.snd.length xx1.snd.fst)) rfl (fun _ => by kernel_rfl) ?_)
    refine Xg.ops_op (by kernel_rfl) (Xg.opx_pure ((Value.bool true)) rfl (fun _ => by kernel_rfl) ?_)
    refine Xg.ops_nil ?_
    refine Xg.at_seq ?_
    refine Xg.at_region ?_
    refine Xg.ops_op (by kernel_rfl) (Xg.opx_callE' [] (fun xx2 => [PpR xx2 newP, ints (5 : TypeId) IntKind.u8 xx1.fst xx1.snd.fst xx1.snd.snd, A, row xb2 (36 : Nat) [Value.slice t.ra t.rn t.rc, Value.slice t.oa t.on t.oc, Value.slice t.pa t.pn t.pc], row xb1 (36 : Nat) [Value.slice s.ra s.rn s.rc, Value.slice s.oa s.on s.oc, Value.slice s.pa s.pn s.pc]]) (fun _ => by kernel_rfl) (@hnew ) (by kernel_rfl) (by kernel_rfl) (by kernel_rfl) fun xx2 xh2 => ?_)
    try dsimp only at xh2
    refine Xg.ops_op (by kernel_rfl) (Xg.opx_pure ((pv xx2 0)) rfl (fun _ => by kernel_rfl) ?_)
    refine Xg.ops_nil ?_
    refine Xg.at_seq ?_
    refine Xg.at_seq ?_
    refine Xg.at_region ?_
    refine Xg.ops_op (by kernel_rfl) (Xg.opx_pure ((Value.bool true)) rfl (fun _ => by kernel_rfl) ?_)
    refine Xg.ops_op (by kernel_rfl) (Xg.opx_pure (.bool false) rfl (fun _ => by kernel_rfl) ?_)
    refine Xg.ops_op (by kernel_rfl) (Xg.opx_pure ((Value.bool false)) rfl (fun _ => by kernel_rfl) ?_)
    refine Xg.ops_op (by kernel_rfl) (Xg.opx_pure ((pv xx2 0)) rfl (fun _ => by kernel_rfl) ?_)
    refine Xg.ops_op (by kernel_rfl) (Xg.opx_pure ((Value.bool false)) rfl (fun _ => by kernel_rfl) ?_)
    refine Xg.ops_op (by kernel_rfl) (Xg.opx_pure ((Value.bool false)) rfl (fun _ => by kernel_rfl) ?_)
    refine Xg.ops_nil ?_
    refine Xg.at_false (t := false) (by kernel_rfl) rfl ?_
    refine Xg.at_skip ?_
    refine Xg.at_seq ?_
    refine Xg.at_region ?_
    refine Xg.ops_op (by kernel_rfl) (Xg.opx_loadn (off := 0) 3 3 [Value.slice t.ra t.rn t.rc, Value.slice t.oa t.on t.oc, Value.slice t.pa t.pn t.pc] (by kernel_rfl) rfl (by kernel_rfl) rfl (Xg.cells_at (by kernel_rfl)) (by kernel_rfl) ?_)
    refine Xg.ops_op (by kernel_rfl) (Xg.opx_pure ((pv xx2 0)) rfl (fun _ => by kernel_rfl) ?_)
    refine Xg.ops_op (by kernel_rfl) (Xg.opx_callE' [2, 0] (fun xx3 => [A, PpR xx2 xx3, ints (5 : TypeId) IntKind.u8 xx1.fst xx1.snd.fst xx1.snd.snd, row xb2 (36 : Nat) [Value.slice t.ra t.rn t.rc, Value.slice t.oa t.on t.oc, Value.slice t.pa t.pn t.pc], row xb1 (36 : Nat) [Value.slice s.ra s.rn s.rc, Value.slice s.oa s.on s.oc, Value.slice s.pa s.pn s.pc]]) (fun _ => by kernel_rfl) (@hset (xx2)) (by kernel_rfl) (by kernel_rfl) (by kernel_rfl) fun xx3 xh3 => ?_)
    try dsimp only at xh3
    refine Xg.ops_nil ?_
    refine Xg.at_seq ?_
    refine Xg.at_seq ?_
    refine Xg.at_region ?_
    refine Xg.ops_op (by kernel_rfl) (Xg.opx_pure ((iv n)) rfl (fun _ => by kernel_rfl) ?_)
    refine Xg.ops_op (by kernel_rfl) (Xg.opx_callE' [] (fun xx4 => [A, PpR xx2 xx3, ints (5 : TypeId) IntKind.u8 xx1.fst xx1.snd.fst xx1.snd.snd, row xb2 (36 : Nat) [Value.slice t.ra t.rn t.rc, Value.slice t.oa t.on t.oc, Value.slice t.pa t.pn t.pc], row xb1 (36 : Nat) [Value.slice s.ra s.rn s.rc, Value.slice s.oa s.on s.oc, Value.slice s.pa s.pn s.pc]]) (fun _ => by kernel_rfl) (@Go.Proofs.Ytkfclamiendamaa.pick_d (n) ((nat_lit 20000)) (by omega) (by first | rfl | decide | (constructor <;> omega) | (simp; done) | (simp; omega))) (by kernel_rfl) (by kernel_rfl) (by kernel_rfl) fun xx4 xh4 => ?_)
    try dsimp only at xh4
    obtain ⟨xh4_0, xh4_1⟩ := xh4
    refine Xg.ops_op (by kernel_rfl) (Xg.opx_pure ((iv (↑xx4 : Int))) rfl (fun _ => by kernel_rfl) ?_)
    refine Xg.ops_nil ?_
    refine Xg.at_block ?_)
  have t0 : Hz xx3 := hz_done (by assumption)
  (focus
    refine Xg.at_rounds_inv (α := (Int × Pp) × (Nat → Value)) (fun x => ((fun x => 0 ≤ x.1 ∧ x.1 ≤ 20000 ∧ Hz x.2) : (Int × Pp) → Prop) x.1) (fun x => ((fun x => x.1.toNat) : (Int × Pp) → Nat) x.1) (fun x => Xg.headT [Value.agg #[Value.slice s.ra s.rn s.rc, Value.slice s.oa s.on s.oc, Value.slice s.pa s.pn s.pc], Value.agg #[Value.slice t.ra t.rn t.rc, Value.slice t.oa t.on t.oc, Value.slice t.pa t.pn t.pc], iv n, pv xb1 0, pv xb2 0, tu, Value.bool false, Value.slice xx1.fst xx1.snd.snd.length xx1.snd.fst, Value.bool true, pv xx2 0, iv (↑xx4 : Int), tu, tu, tu, tu, Value.tuple #[Value.slice xx1.fst xx1.snd.snd.length xx1.snd.fst, Value.bool true], Value.agg #[Value.slice s.ra s.rn s.rc, Value.slice s.oa s.on s.oc, Value.slice s.pa s.pn s.pc], Value.tuple #[Value.slice xx1.fst xx1.snd.snd.length xx1.snd.fst, Value.bool true], Value.slice xx1.fst xx1.snd.snd.length xx1.snd.fst, Value.bool true, pv xx2 0, Value.bool true, Value.bool false, Value.bool false, pv xx2 0, Value.bool false, Value.bool false, Value.agg #[Value.slice t.ra t.rn t.rc, Value.slice t.oa t.on t.oc, Value.slice t.pa t.pn t.pc], pv xx2 0, tu, iv n, iv (↑xx4 : Int), tu, tu, tu, tu, tu, tu, tu, tu, tu, tu, tu, tu, tu, tu, tu, tu, tu, tu, tu, tu, tu, tu, tu, tu, tu, tu, tu, tu, tu, tu, tu, tu, tu, tu, tu, tu, tu, tu, tu, tu, tu] [32, 33, 34, 35, 36, 37] (((fun x => [(10, .int .i64 x.1)]) : (Int × Pp) → List (Nat × Go.Value)) x.1) x.2) (fun x => ((fun x => [A, PpR xx2 x.2, ints 5 .u8 xx1.1 xx1.2.1 xx1.2.2, row xb2 36 [.slice t.ra t.rn t.rc, .slice t.oa t.on t.oc, .slice t.pa t.pn t.pc], row xb1 36 [.slice s.ra s.rn s.rc, .slice s.oa s.on s.oc, .slice s.pa s.pn s.pc]]) : (Int × Pp) → List Go.Sl.HP) x.1) ((((xx4 : Int), xx3)), fun j => ([Value.agg #[Value.slice s.ra s.rn s.rc, Value.slice s.oa s.on s.oc, Value.slice s.pa s.pn s.pc], Value.agg #[Value.slice t.ra t.rn t.rc, Value.slice t.oa t.on t.oc, Value.slice t.pa t.pn t.pc], iv n, pv xb1 0, pv xb2 0, tu, Value.bool false, Value.slice xx1.fst xx1.snd.snd.length xx1.snd.fst, Value.bool true, pv xx2 0, iv (↑xx4 : Int), tu, tu, tu, tu, Value.tuple #[Value.slice xx1.fst xx1.snd.snd.length xx1.snd.fst, Value.bool true], Value.agg #[Value.slice s.ra s.rn s.rc, Value.slice s.oa s.on s.oc, Value.slice s.pa s.pn s.pc], Value.tuple #[Value.slice xx1.fst xx1.snd.snd.length xx1.snd.fst, Value.bool true], Value.slice xx1.fst xx1.snd.snd.length xx1.snd.fst, Value.bool true, pv xx2 0, Value.bool true, Value.bool false, Value.bool false, pv xx2 0, Value.bool false, Value.bool false, Value.agg #[Value.slice t.ra t.rn t.rc, Value.slice t.oa t.on t.oc, Value.slice t.pa t.pn t.pc], pv xx2 0, tu, iv n, iv (↑xx4 : Int), tu, tu, tu, tu, tu, tu, tu, tu, tu, tu, tu, tu, tu, tu, tu, tu, tu, tu, tu, tu, tu, tu, tu, tu, tu, tu, tu, tu, tu, tu, tu, tu, tu, tu, tu, tu, tu, tu, tu, tu, tu] : List Value).getD j undef) (by kernel_rfl) (by kernel_rfl) ?_ ?_)
  · exact ⟨by dsimp only; omega, by dsimp only; omega, t0⟩
  rintro ⟨⟨i, σ⟩, J⟩ ⟨hi, hi2, hz⟩ ih
  dsimp only at hi hi2 hz
  have hok := hz.ok
  (focus
    refine Xg.At.same (T' := [Value.agg #[Value.slice s.ra s.rn s.rc, Value.slice s.oa s.on s.oc, Value.slice s.pa s.pn s.pc], Value.agg #[Value.slice t.ra t.rn t.rc, Value.slice t.oa t.on t.oc, Value.slice t.pa t.pn t.pc], iv n, pv xb1 0, pv xb2 0, tu, Value.bool false, Value.slice xx1.fst xx1.snd.snd.length xx1.snd.fst, Value.bool true, pv xx2 0, iv i, tu, tu, tu, tu, Value.tuple #[Value.slice xx1.fst xx1.snd.snd.length xx1.snd.fst, Value.bool true], Value.agg #[Value.slice s.ra s.rn s.rc, Value.slice s.oa s.on s.oc, Value.slice s.pa s.pn s.pc], Value.tuple #[Value.slice xx1.fst xx1.snd.snd.length xx1.snd.fst, Value.bool true], Value.slice xx1.fst xx1.snd.snd.length xx1.snd.fst, Value.bool true, pv xx2 0, Value.bool true, Value.bool false, Value.bool false, pv xx2 0, Value.bool false, Value.bool false, Value.agg #[Value.slice t.ra t.rn t.rc, Value.slice t.oa t.on t.oc, Value.slice t.pa t.pn t.pc], pv xx2 0, tu, iv n, iv (↑xx4 : Int), J 32, J 33, J 34, J 35, J 36, J 37, tu, tu, tu, tu, tu, tu, tu, tu, tu, tu, tu, tu, tu, tu, tu, tu, tu, tu, tu, tu, tu, tu, tu, tu, tu, tu, tu, tu, tu, tu, tu, tu, tu, tu, tu]) (L' := [A, PpR xx2 ((i, σ), J).fst.snd, ints (5 : TypeId) IntKind.u8 xx1.fst xx1.snd.fst xx1.snd.snd, row xb2 (36 : TypeId) [Value.slice t.ra t.rn t.rc, Value.slice t.oa t.on t.oc, Value.slice t.pa t.pn t.pc], row xb1 (36 : TypeId) [Value.slice s.ra s.rn s.rc, Value.slice s.oa s.on s.oc, Value.slice s.pa s.pn s.pc]]) (by kernel_rfl) rfl ?_)
  by_cases hlt : 0 < i
  · have htk : Does Try.prog 38 [pt xx2] [PpR xx2 σ] (RetE (fun x : Pp × Int => x.1 = tickP σ) (fun x => .int .i64 x.2) (fun x => [PpR xx2 x.1])) :=
      (tick_d xx2 σ hok).mono fun _ _ ⟨x, ⟨h1, _⟩, e1, e2⟩ => ⟨x, h1, e1, e2⟩
    (focus
      refine Xg.at_seq ?_
      refine Xg.at_seq ?_
      refine Xg.at_region ?_
      refine Xg.ops_op (by kernel_rfl) (Xg.opx_pure ((iv i)) rfl (fun _ => by kernel_rfl) ?_)
      refine Xg.ops_op (by kernel_rfl) (Xg.opx_pure (.bool (decide ((i : Int) > ((0 : Int))))) rfl (fun _ => by kernel_rfl) ?_)
      refine Xg.ops_nil ?_
      refine Xg.at_true (t := decide ((i > (0 : Int)))) (by kernel_rfl) (decide_eq_true (by omega)) ?_
      refine Xg.at_skip ?_
      refine Xg.at_seq ?_
      refine Xg.at_block ?_
      refine Xg.at_region ?_
      refine Xg.ops_op (by kernel_rfl) (Xg.opx_pure ((pv xx2 0)) rfl (fun _ => by kernel_rfl) ?_)
      refine Xg.ops_op (by kernel_rfl) (Xg.opx_callE' [1] (fun xx5 => [PpR xx2 xx5.fst, A, ints (5 : TypeId) IntKind.u8 xx1.fst xx1.snd.fst xx1.snd.snd, row xb2 (36 : TypeId) [Value.slice t.ra t.rn t.rc, Value.slice t.oa t.on t.oc, Value.slice t.pa t.pn t.pc], row xb1 (36 : TypeId) [Value.slice s.ra s.rn s.rc, Value.slice s.oa s.on s.oc, Value.slice s.pa s.pn s.pc]]) (fun _ => by kernel_rfl) (@htk ) (by kernel_rfl) (by kernel_rfl) (by kernel_rfl) fun xx5 xh5 => ?_)
      try dsimp only at xh5
      refine Xg.ops_nil ?_
      refine Xg.at_inBlock ?_
      refine Xg.at_region ?_
      refine Xg.ops_op (by kernel_rfl) (Xg.opx_pure ((iv i)) rfl (fun _ => by kernel_rfl) ?_)
      refine Xg.ops_op (by kernel_rfl) (Xg.opx_int .i64 (IntKind.wrap .i64 ((i - (1 : Int)))) rfl (fun _ => by kernel_rfl) (Xg.wrap_i64_in (by omega)) ?_)
      refine Xg.ops_op (by kernel_rfl) (Xg.opx_pure ((iv (i - (1 : Int)))) rfl (fun _ => by kernel_rfl) ?_)
      refine Xg.ops_nil ?_
      refine Xg.at_inLoop ?_)
    (focus
      refine Xg.at_keep [1, 0, 2, 3, 4] (by kernel_rfl) ?_
      refine Xg.At.same (by kernel_rfl) ?_ (ih (((i - 1, xx5.1)), fun j => ([Value.agg #[Value.slice s.ra s.rn s.rc, Value.slice s.oa s.on s.oc, Value.slice s.pa s.pn s.pc], Value.agg #[Value.slice t.ra t.rn t.rc, Value.slice t.oa t.on t.oc, Value.slice t.pa t.pn t.pc], iv n, pv xb1 0, pv xb2 0, tu, Value.bool false, Value.slice xx1.fst xx1.snd.snd.length xx1.snd.fst, Value.bool true, pv xx2 0, iv (i - (1 : Int)), tu, tu, tu, tu, Value.tuple #[Value.slice xx1.fst xx1.snd.snd.length xx1.snd.fst, Value.bool true], Value.agg #[Value.slice s.ra s.rn s.rc, Value.slice s.oa s.on s.oc, Value.slice s.pa s.pn s.pc], Value.tuple #[Value.slice xx1.fst xx1.snd.snd.length xx1.snd.fst, Value.bool true], Value.slice xx1.fst xx1.snd.snd.length xx1.snd.fst, Value.bool true, pv xx2 0, Value.bool true, Value.bool false, Value.bool false, pv xx2 0, Value.bool false, Value.bool false, Value.agg #[Value.slice t.ra t.rn t.rc, Value.slice t.oa t.on t.oc, Value.slice t.pa t.pn t.pc], pv xx2 0, tu, iv n, iv (↑xx4 : Int), iv i, Value.bool (decide (i > (0 : Int))), iv i, iv (i - (1 : Int)), pv xx2 0, iv xx5.snd, tu, tu, tu, tu, tu, tu, tu, tu, tu, tu, tu, tu, tu, tu, tu, tu, tu, tu, tu, tu, tu, tu, tu, tu, tu, tu, tu, tu, tu, tu, tu, tu, tu, tu, tu] : List Value).getD j undef) ?_ ?_))
    · rfl
    · exact ⟨by dsimp only; omega, by dsimp only; omega, by rw [show xx5.1 = tickP σ by assumption]; exact hz_tick hz⟩
    · dsimp only; omega
  · clear ih
    have hi0 : i = 0 := by omega
    subst hi0
    (focus
      refine Xg.at_seq ?_
      refine Xg.at_seq ?_
      refine Xg.at_region ?_
      refine Xg.ops_op (by kernel_rfl) (Xg.opx_pure ((iv 0)) rfl (fun _ => by kernel_rfl) ?_)
      refine Xg.ops_op (by kernel_rfl) (Xg.opx_pure ((Value.bool false)) rfl (fun _ => by kernel_rfl) ?_)
      refine Xg.ops_nil ?_
      refine Xg.at_false (t := false) (by kernel_rfl) rfl ?_
      refine Xg.at_exit rfl ?_
      refine Xg.at_seq ?_
      refine Xg.at_region ?_
      refine Xg.ops_op (by kernel_rfl) (Xg.opx_pure ((pv xx2 0)) rfl (fun _ => by kernel_rfl) ?_)
      refine Xg.ops_op (by kernel_rfl) (Xg.opx_callE' [1] (fun xx5 => [PpR xx2 xx5, A, ints (5 : TypeId) IntKind.u8 xx1.fst xx1.snd.fst xx1.snd.snd, row xb2 (36 : TypeId) [Value.slice t.ra t.rn t.rc, Value.slice t.oa t.on t.oc, Value.slice t.pa t.pn t.pc], row xb1 (36 : TypeId) [Value.slice s.ra s.rn s.rc, Value.slice s.oa s.on s.oc, Value.slice s.pa s.pn s.pc]]) (fun _ => by kernel_rfl) (@Go.Proofs.Ytkfclamiendamaa.write_k (xx2) (σ) (by omega) (((65344 : Int))) (((0 : Int))) (by omega)) (by kernel_rfl) (by kernel_rfl) (by kernel_rfl) fun xx5 xh5 => ?_)
      try dsimp only at xh5
      obtain ⟨xh5_0, xh5_1⟩ := xh5
      refine Xg.ops_nil ?_
      refine Xg.at_seq ?_
      refine Xg.at_seq ?_
      refine Xg.at_region ?_
      refine Xg.ops_op (by kernel_rfl) (Xg.opx_pure ((iv 0)) rfl (fun _ => by kernel_rfl) ?_)
      refine Xg.ops_nil ?_
      refine Xg.at_block ?_)
    have u0 : Zr 0 xx5 := by
      rw [show xx5 = _ by assumption]
      exact zr_zero hz
    (focus
      refine Xg.at_rounds_inv (α := (Nat × Pp) × (Nat → Value)) (fun x => ((fun x => x.1 ≤ 8192 ∧ Zr x.1 x.2) : (Nat × Pp) → Prop) x.1) (fun x => ((fun x => 8192 - x.1) : (Nat × Pp) → Nat) x.1) (fun x => Xg.headT [Value.agg #[Value.slice s.ra s.rn s.rc, Value.slice s.oa s.on s.oc, Value.slice s.pa s.pn s.pc], Value.agg #[Value.slice t.ra t.rn t.rc, Value.slice t.oa t.on t.oc, Value.slice t.pa t.pn t.pc], iv n, pv xb1 0, pv xb2 0, tu, Value.bool false, Value.slice xx1.fst xx1.snd.snd.length xx1.snd.fst, Value.bool true, pv xx2 0, iv 0, iv 0, tu, tu, tu, Value.tuple #[Value.slice xx1.fst xx1.snd.snd.length xx1.snd.fst, Value.bool true], Value.agg #[Value.slice s.ra s.rn s.rc, Value.slice s.oa s.on s.oc, Value.slice s.pa s.pn s.pc], Value.tuple #[Value.slice xx1.fst xx1.snd.snd.length xx1.snd.fst, Value.bool true], Value.slice xx1.fst xx1.snd.snd.length xx1.snd.fst, Value.bool true, pv xx2 0, Value.bool true, Value.bool false, Value.bool false, pv xx2 0, Value.bool false, Value.bool false, Value.agg #[Value.slice t.ra t.rn t.rc, Value.slice t.oa t.on t.oc, Value.slice t.pa t.pn t.pc], pv xx2 0, tu, iv n, iv (↑xx4 : Int), iv 0, Value.bool false, (((0 : Int), σ), J).snd (34 : Nat), (((0 : Int), σ), J).snd (35 : Nat), (((0 : Int), σ), J).snd (36 : Nat), (((0 : Int), σ), J).snd (37 : Nat), pv xx2 0, tu, tu, tu, tu, tu, tu, tu, tu, tu, tu, tu, tu, tu, tu, tu, tu, tu, tu, tu, tu, tu, tu, tu, tu, tu, tu, tu, tu, tu, tu, tu, tu, tu, tu] [40, 41, 42, 43, 44, 45, 46, 47] (((fun x => [(11, .int .i64 (x.1 : Nat))]) : (Nat × Pp) → List (Nat × Go.Value)) x.1) x.2) (fun x => ((fun x => [PpR xx2 x.2, A, ints 5 .u8 xx1.1 xx1.2.1 xx1.2.2, row xb2 36 [.slice t.ra t.rn t.rc, .slice t.oa t.on t.oc, .slice t.pa t.pn t.pc], row xb1 36 [.slice s.ra s.rn s.rc, .slice s.oa s.on s.oc, .slice s.pa s.pn s.pc]]) : (Nat × Pp) → List Go.Sl.HP) x.1) (((0, xx5)), fun j => ([Value.agg #[Value.slice s.ra s.rn s.rc, Value.slice s.oa s.on s.oc, Value.slice s.pa s.pn s.pc], Value.agg #[Value.slice t.ra t.rn t.rc, Value.slice t.oa t.on t.oc, Value.slice t.pa t.pn t.pc], iv n, pv xb1 0, pv xb2 0, tu, Value.bool false, Value.slice xx1.fst xx1.snd.snd.length xx1.snd.fst, Value.bool true, pv xx2 0, iv 0, iv 0, tu, tu, tu, Value.tuple #[Value.slice xx1.fst xx1.snd.snd.length xx1.snd.fst, Value.bool true], Value.agg #[Value.slice s.ra s.rn s.rc, Value.slice s.oa s.on s.oc, Value.slice s.pa s.pn s.pc], Value.tuple #[Value.slice xx1.fst xx1.snd.snd.length xx1.snd.fst, Value.bool true], Value.slice xx1.fst xx1.snd.snd.length xx1.snd.fst, Value.bool true, pv xx2 0, Value.bool true, Value.bool false, Value.bool false, pv xx2 0, Value.bool false, Value.bool false, Value.agg #[Value.slice t.ra t.rn t.rc, Value.slice t.oa t.on t.oc, Value.slice t.pa t.pn t.pc], pv xx2 0, tu, iv n, iv (↑xx4 : Int), iv 0, Value.bool false, (((0 : Int), σ), J).snd (34 : Nat), (((0 : Int), σ), J).snd (35 : Nat), (((0 : Int), σ), J).snd (36 : Nat), (((0 : Int), σ), J).snd (37 : Nat), pv xx2 0, tu, tu, tu, tu, tu, tu, tu, tu, tu, tu, tu, tu, tu, tu, tu, tu, tu, tu, tu, tu, tu, tu, tu, tu, tu, tu, tu, tu, tu, tu, tu, tu, tu, tu] : List Value).getD j undef) (by kernel_rfl) (by kernel_rfl) ?_ ?_)
    · exact ⟨Nat.zero_le _, u0⟩
    rintro ⟨⟨i, υ⟩, J2⟩ ⟨hi3, hu⟩ ih
    dsimp only at hi3 hu
    have hok2 := hu.ok
    (focus
      refine Xg.At.same (T' := [Value.agg #[Value.slice s.ra s.rn s.rc, Value.slice s.oa s.on s.oc, Value.slice s.pa s.pn s.pc], Value.agg #[Value.slice t.ra t.rn t.rc, Value.slice t.oa t.on t.oc, Value.slice t.pa t.pn t.pc], iv n, pv xb1 0, pv xb2 0, tu, Value.bool false, Value.slice xx1.fst xx1.snd.snd.length xx1.snd.fst, Value.bool true, pv xx2 0, iv 0, iv (↑i : Int), tu, tu, tu, Value.tuple #[Value.slice xx1.fst xx1.snd.snd.length xx1.snd.fst, Value.bool true], Value.agg #[Value.slice s.ra s.rn s.rc, Value.slice s.oa s.on s.oc, Value.slice s.pa s.pn s.pc], Value.tuple #[Value.slice xx1.fst xx1.snd.snd.length xx1.snd.fst, Value.bool true], Value.slice xx1.fst xx1.snd.snd.length xx1.snd.fst, Value.bool true, pv xx2 0, Value.bool true, Value.bool false, Value.bool false, pv xx2 0, Value.bool false, Value.bool false, Value.agg #[Value.slice t.ra t.rn t.rc, Value.slice t.oa t.on t.oc, Value.slice t.pa t.pn t.pc], pv xx2 0, tu, iv n, iv (↑xx4 : Int), iv 0, Value.bool false, (((0 : Int), σ), J).snd (34 : Nat), (((0 : Int), σ), J).snd (35 : Nat), (((0 : Int), σ), J).snd (36 : Nat), (((0 : Int), σ), J).snd (37 : Nat), pv xx2 0, tu, J2 40, J2 41, J2 42, J2 43, J2 44, J2 45, J2 46, J2 47, tu, tu, tu, tu, tu, tu, tu, tu, tu, tu, tu, tu, tu, tu, tu, tu, tu, tu, tu, tu, tu, tu, tu, tu, tu]) (L' := [PpR xx2 ((i, υ), J2).fst.snd, A, ints (5 : TypeId) IntKind.u8 xx1.fst xx1.snd.fst xx1.snd.snd, row xb2 (36 : TypeId) [Value.slice t.ra t.rn t.rc, Value.slice t.oa t.on t.oc, Value.slice t.pa t.pn t.pc], row xb1 (36 : TypeId) [Value.slice s.ra s.rn s.rc, Value.slice s.oa s.on s.oc, Value.slice s.pa s.pn s.pc]]) (by kernel_rfl) rfl ?_)
    by_cases hlt2 : i < 8192
    · have hu2 := zr_next hu hlt2
      (focus
        refine Xg.at_seq ?_
        refine Xg.at_seq ?_
        refine Xg.at_region ?_
        refine Xg.ops_op (by kernel_rfl) (Xg.opx_pure ((iv (↑i : Int))) rfl (fun _ => by kernel_rfl) ?_)
        refine Xg.ops_op (by kernel_rfl) (Xg.opx_pure (.bool (decide ((((↑i : Int)) : Int) < ((8192 : Int))))) rfl (fun _ => by kernel_rfl) ?_)
        refine Xg.ops_nil ?_
        refine Xg.at_true (t := decide (((↑i : Int) < (8192 : Int)))) (by kernel_rfl) (decide_eq_true (by omega)) ?_
        refine Xg.at_skip ?_
        refine Xg.at_seq ?_
        refine Xg.at_block ?_
        refine Xg.at_region ?_
        refine Xg.ops_op (by kernel_rfl) (Xg.opx_pure ((pv xx2 0)) rfl (fun _ => by kernel_rfl) ?_)
        refine Xg.ops_op (by kernel_rfl) (Xg.opx_pure ((iv (↑i : Int))) rfl (fun _ => by kernel_rfl) ?_)
        refine Xg.ops_op (by kernel_rfl) (Xg.opx_int .i64 (IntKind.wrap .i64 (((32768 : Int) + (↑i : Int)))) rfl (fun _ => by kernel_rfl) (Xg.wrap_i64_in (by omega)) ?_)
        refine Xg.ops_op (by kernel_rfl) (Xg.opx_callE' [0] (fun xx6 => [PpR xx2 xx6, A, ints (5 : TypeId) IntKind.u8 xx1.fst xx1.snd.fst xx1.snd.snd, row xb2 (36 : TypeId) [Value.slice t.ra t.rn t.rc, Value.slice t.oa t.on t.oc, Value.slice t.pa t.pn t.pc], row xb1 (36 : TypeId) [Value.slice s.ra s.rn s.rc, Value.slice s.oa s.on s.oc, Value.slice s.pa s.pn s.pc]]) (fun _ => by kernel_rfl) (@Go.Proofs.Ytkfclamiendamaa.write_k (xx2) (υ) (by omega) (((32768 : Int) + (↑i : Int))) (((0 : Int))) (by omega)) (by kernel_rfl) (by kernel_rfl) (by kernel_rfl) fun xx6 xh6 => ?_)
        try dsimp only at xh6
        obtain ⟨xh6_0, xh6_1⟩ := xh6
        refine Xg.ops_nil ?_
        refine Xg.at_inBlock ?_
        refine Xg.at_region ?_
        refine Xg.ops_op (by kernel_rfl) (Xg.opx_pure ((iv (↑i : Int))) rfl (fun _ => by kernel_rfl) ?_)
        refine Xg.ops_op (by kernel_rfl) (Xg.opx_int .i64 (IntKind.wrap .i64 (((↑i : Int) + (1 : Int)))) rfl (fun _ => by kernel_rfl) (Xg.wrap_i64_in (by omega)) ?_)
        refine Xg.ops_op (by kernel_rfl) (Xg.opx_pure ((iv ((↑i : Int) + (1 : Int)))) rfl (fun _ => by kernel_rfl) ?_)
        refine Xg.ops_nil ?_
        refine Xg.at_inLoop ?_)
      (focus
        refine Xg.at_keep [0, 1, 2, 3, 4] (by kernel_rfl) ?_
        refine Xg.At.same (by kernel_rfl) ?_ (ih (((i + 1, xx6)), fun j => ([Value.agg #[Value.slice s.ra s.rn s.rc, Value.slice s.oa s.on s.oc, Value.slice s.pa s.pn s.pc], Value.agg #[Value.slice t.ra t.rn t.rc, Value.slice t.oa t.on t.oc, Value.slice t.pa t.pn t.pc], iv n, pv xb1 0, pv xb2 0, tu, Value.bool false, Value.slice xx1.fst xx1.snd.snd.length xx1.snd.fst, Value.bool true, pv xx2 0, iv 0, iv ((↑i : Int) + (1 : Int)), tu, tu, tu, Value.tuple #[Value.slice xx1.fst xx1.snd.snd.length xx1.snd.fst, Value.bool true], Value.agg #[Value.slice s.ra s.rn s.rc, Value.slice s.oa s.on s.oc, Value.slice s.pa s.pn s.pc], Value.tuple #[Value.slice xx1.fst xx1.snd.snd.length xx1.snd.fst, Value.bool true], Value.slice xx1.fst xx1.snd.snd.length xx1.snd.fst, Value.bool true, pv xx2 0, Value.bool true, Value.bool false, Value.bool false, pv xx2 0, Value.bool false, Value.bool false, Value.agg #[Value.slice t.ra t.rn t.rc, Value.slice t.oa t.on t.oc, Value.slice t.pa t.pn t.pc], pv xx2 0, tu, iv n, iv (↑xx4 : Int), iv 0, Value.bool false, (((0 : Int), σ), J).snd (34 : Nat), (((0 : Int), σ), J).snd (35 : Nat), (((0 : Int), σ), J).snd (36 : Nat), (((0 : Int), σ), J).snd (37 : Nat), pv xx2 0, tu, iv (↑i : Int), Value.bool (decide ((↑i : Int) < (8192 : Int))), iv (↑i : Int), iv ((↑i : Int) + (1 : Int)), pv xx2 0, iv (↑i : Int), iv ((32768 : Int) + (↑i : Int)), tu, tu, tu, tu, tu, tu, tu, tu, tu, tu, tu, tu, tu, tu, tu, tu, tu, tu, tu, tu, tu, tu, tu, tu, tu, tu] : List Value).getD j undef) ?_ ?_))
      · rfl
      · exact ⟨by dsimp only; omega, by rw [show xx6 = _ by assumption]; exact hu2⟩
      · dsimp only; omega
    · clear ih
      have hi8 : i = 8192 := by omega
      subst hi8
      have hset2 := set_s A s hs xx2 υ hok2 newP.vram (zr_all hu)
      (focus
        refine Xg.at_seq ?_
        refine Xg.at_seq ?_
        refine Xg.at_region ?_
        refine Xg.ops_op (by kernel_rfl) (Xg.opx_pure ((iv 8192)) rfl (fun _ => by kernel_rfl) ?_)
        refine Xg.ops_op (by kernel_rfl) (Xg.opx_pure ((Value.bool false)) rfl (fun _ => by kernel_rfl) ?_)
        refine Xg.ops_nil ?_
        refine Xg.at_false (t := false) (by kernel_rfl) rfl ?_
        refine Xg.at_exit rfl ?_
        refine Xg.at_seq ?_
        refine Xg.at_region ?_
        refine Xg.ops_op (by kernel_rfl) (Xg.opx_loadn (off := 0) 3 4 [Value.slice s.ra s.rn s.rc, Value.slice s.oa s.on s.oc, Value.slice s.pa s.pn s.pc] (by kernel_rfl) rfl (by kernel_rfl) rfl (Xg.cells_at (by kernel_rfl)) (by kernel_rfl) ?_)
        refine Xg.ops_op (by kernel_rfl) (Xg.opx_pure ((pv xx2 0)) rfl (fun _ => by kernel_rfl) ?_)
        refine Xg.ops_op (by kernel_rfl) (Xg.opx_callE' [1, 0] (fun xx6 => [A, PpR xx2 xx6, ints (5 : TypeId) IntKind.u8 xx1.fst xx1.snd.fst xx1.snd.snd, row xb2 (36 : TypeId) [Value.slice t.ra t.rn t.rc, Value.slice t.oa t.on t.oc, Value.slice t.pa t.pn t.pc], row xb1 (36 : TypeId) [Value.slice s.ra s.rn s.rc, Value.slice s.oa s.on s.oc, Value.slice s.pa s.pn s.pc]]) (fun _ => by kernel_rfl) (@hset2 ) (by kernel_rfl) (by kernel_rfl) (by kernel_rfl) fun xx6 xh6 => ?_)
        try dsimp only at xh6
        refine Xg.ops_nil ?_
        refine Xg.at_seq ?_
        refine Xg.at_region ?_
        refine Xg.ops_op (by kernel_rfl) (Xg.opx_pure ((pv xx2 0)) rfl (fun _ => by kernel_rfl) ?_))
      have hd : Done s newP.vram xx6 := by assumption
      have hone1 := one_h s xx2 xx6 hd
      have hnx := T16_next hd
      have hGo := T16_ok hd.ok
      obtain ⟨G, hG⟩ : ∃ G, T16 xx6 = G := ⟨_, rfl⟩
      rw [hG] at hone1 hnx hGo
      clear hG hd
      (focus
        refine Xg.ops_op (by kernel_rfl) (Xg.opx_callE' [1] (fun xx7 => [ints (5 : TypeId) IntKind.u8 xx7.fst xx7.snd.fst xx7.snd.snd, PpR xx2 G, A, ints (5 : TypeId) IntKind.u8 xx1.fst xx1.snd.fst xx1.snd.snd, row xb2 (36 : TypeId) [Value.slice t.ra t.rn t.rc, Value.slice t.oa t.on t.oc, Value.slice t.pa t.pn t.pc], row xb1 (36 : TypeId) [Value.slice s.ra s.rn s.rc, Value.slice s.oa s.on s.oc, Value.slice s.pa s.pn s.pc]]) (fun _ => by kernel_rfl) (@hone1 ) (by kernel_rfl) (by kernel_rfl) (by kernel_rfl) fun xx7 xh7 => ?_)
        try dsimp only at xh7
        obtain ⟨xh7_0, xh7_1⟩ := xh7
        refine Xg.ops_op (by kernel_rfl) (Xg.opx_pure ((Value.slice xx7.fst xx7.snd.snd.length xx7.snd.fst)) rfl (fun _ => by kernel_rfl) ?_)
        refine Xg.ops_nil ?_
        refine Xg.at_seq ?_
        refine Xg.at_seq ?_
        refine Xg.at_region ?_
        refine Xg.ops_op (by kernel_rfl) (Xg.opx_pure ((iv 0)) rfl (fun _ => by kernel_rfl) ?_)
        refine Xg.ops_nil ?_
        refine Xg.at_block ?_)
      (focus
        refine Xg.at_rounds_inv (α := (Nat × Pp) × (Nat → Value)) (fun x => ((fun x => x.1 ≤ 1140 ∧ x.2 = ticks x.1 G ∧ x.2.Ok) : (Nat × Pp) → Prop) x.1) (fun x => ((fun x => 1140 - x.1) : (Nat × Pp) → Nat) x.1) (fun x => Xg.headT [Value.agg #[Value.slice s.ra s.rn s.rc, Value.slice s.oa s.on s.oc, Value.slice s.pa s.pn s.pc], Value.agg #[Value.slice t.ra t.rn t.rc, Value.slice t.oa t.on t.oc, Value.slice t.pa t.pn t.pc], iv n, pv xb1 0, pv xb2 0, tu, Value.bool false, Value.slice xx1.fst xx1.snd.snd.length xx1.snd.fst, Value.bool true, pv xx2 0, iv 0, iv 8192, Value.slice xx7.fst xx7.snd.snd.length xx7.snd.fst, iv 0, tu, Value.tuple #[Value.slice xx1.fst xx1.snd.snd.length xx1.snd.fst, Value.bool true], Value.agg #[Value.slice s.ra s.rn s.rc, Value.slice s.oa s.on s.oc, Value.slice s.pa s.pn s.pc], Value.tuple #[Value.slice xx1.fst xx1.snd.snd.length xx1.snd.fst, Value.bool true], Value.slice xx1.fst xx1.snd.snd.length xx1.snd.fst, Value.bool true, pv xx2 0, Value.bool true, Value.bool false, Value.bool false, pv xx2 0, Value.bool false, Value.bool false, Value.agg #[Value.slice t.ra t.rn t.rc, Value.slice t.oa t.on t.oc, Value.slice t.pa t.pn t.pc], pv xx2 0, tu, iv n, iv (↑xx4 : Int), iv 0, Value.bool false, (((0 : Int), σ), J).snd (34 : Nat), (((0 : Int), σ), J).snd (35 : Nat), (((0 : Int), σ), J).snd (36 : Nat), (((0 : Int), σ), J).snd (37 : Nat), pv xx2 0, tu, iv 8192, Value.bool false, (((8192 : Nat), υ), J2).snd (42 : Nat), (((8192 : Nat), υ), J2).snd (43 : Nat), (((8192 : Nat), υ), J2).snd (44 : Nat), (((8192 : Nat), υ), J2).snd (45 : Nat), (((8192 : Nat), υ), J2).snd (46 : Nat), (((8192 : Nat), υ), J2).snd (47 : Nat), Value.agg #[Value.slice s.ra s.rn s.rc, Value.slice s.oa s.on s.oc, Value.slice s.pa s.pn s.pc], pv xx2 0, tu, pv xx2 0, Value.slice xx7.fst xx7.snd.snd.length xx7.snd.fst, tu, tu, tu, tu, tu, tu, tu, tu, tu, tu, tu, tu, tu, tu, tu, tu, tu, tu, tu, tu] [53, 54, 55, 56, 57, 58] (((fun x => [(13, .int .i64 (x.1 : Nat))]) : (Nat × Pp) → List (Nat × Go.Value)) x.1) x.2) (fun x => ((fun x => [ints 5 .u8 xx7.1 xx7.2.1 xx7.2.2, PpR xx2 x.2, A, ints 5 .u8 xx1.1 xx1.2.1 xx1.2.2, row xb2 36 [.slice t.ra t.rn t.rc, .slice t.oa t.on t.oc, .slice t.pa t.pn t.pc], row xb1 36 [.slice s.ra s.rn s.rc, .slice s.oa s.on s.oc, .slice s.pa s.pn s.pc]]) : (Nat × Pp) → List Go.Sl.HP) x.1) (((0, G)), fun j => ([Value.agg #[Value.slice s.ra s.rn s.rc, Value.slice s.oa s.on s.oc, Value.slice s.pa s.pn s.pc], Value.agg #[Value.slice t.ra t.rn t.rc, Value.slice t.oa t.on t.oc, Value.slice t.pa t.pn t.pc], iv n, pv xb1 0, pv xb2 0, tu, Value.bool false, Value.slice xx1.fst xx1.snd.snd.length xx1.snd.fst, Value.bool true, pv xx2 0, iv 0, iv 8192, Value.slice xx7.fst xx7.snd.snd.length xx7.snd.fst, iv 0, tu, Value.tuple #[Value.slice xx1.fst xx1.snd.snd.length xx1.snd.fst, Value.bool true], Value.agg #[Value.slice s.ra s.rn s.rc, Value.slice s.oa s.on s.oc, Value.slice s.pa s.pn s.pc], Value.tuple #[Value.slice xx1.fst xx1.snd.snd.length xx1.snd.fst, Value.bool true], Value.slice xx1.fst xx1.snd.snd.length xx1.snd.fst, Value.bool true, pv xx2 0, Value.bool true, Value.bool false, Value.bool false, pv xx2 0, Value.bool false, Value.bool false, Value.agg #[Value.slice t.ra t.rn t.rc, Value.slice t.oa t.on t.oc, Value.slice t.pa t.pn t.pc], pv xx2 0, tu, iv n, iv (↑xx4 : Int), iv 0, Value.bool false, (((0 : Int), σ), J).snd (34 : Nat), (((0 : Int), σ), J).snd (35 : Nat), (((0 : Int), σ), J).snd (36 : Nat), (((0 : Int), σ), J).snd (37 : Nat), pv xx2 0, tu, iv 8192, Value.bool false, (((8192 : Nat), υ), J2).snd (42 : Nat), (((8192 : Nat), υ), J2).snd (43 : Nat), (((8192 : Nat), υ), J2).snd (44 : Nat), (((8192 : Nat), υ), J2).snd (45 : Nat), (((8192 : Nat), υ), J2).snd (46 : Nat), (((8192 : Nat), υ), J2).snd (47 : Nat), Value.agg #[Value.slice s.ra s.rn s.rc, Value.slice s.oa s.on s.oc, Value.slice s.pa s.pn s.pc], pv xx2 0, tu, pv xx2 0, Value.slice xx7.fst xx7.snd.snd.length xx7.snd.fst, tu, tu, tu, tu, tu, tu, tu, tu, tu, tu, tu, tu, tu, tu, tu, tu, tu, tu, tu, tu] : List Value).getD j undef) (by kernel_rfl) (by kernel_rfl) ?_ ?_)
      · exact ⟨Nat.zero_le _, rfl, hGo⟩
      rintro ⟨⟨i, ω⟩, J3⟩ ⟨hi4, hw, hok4⟩ ih
      dsimp only at hi4 hw hok4
      (focus
        refine Xg.At.same (T' := [Value.agg #[Value.slice s.ra s.rn s.rc, Value.slice s.oa s.on s.oc, Value.slice s.pa s.pn s.pc], Value.agg #[Value.slice t.ra t.rn t.rc, Value.slice t.oa t.on t.oc, Value.slice t.pa t.pn t.pc], iv n, pv xb1 0, pv xb2 0, tu, Value.bool false, Value.slice xx1.fst xx1.snd.snd.length xx1.snd.fst, Value.bool true, pv xx2 0, iv 0, iv 8192, Value.slice xx7.fst xx7.snd.snd.length xx7.snd.fst, iv (↑i : Int), tu, Value.tuple #[Value.slice xx1.fst xx1.snd.snd.length xx1.snd.fst, Value.bool true], Value.agg #[Value.slice s.ra s.rn s.rc, Value.slice s.oa s.on s.oc, Value.slice s.pa s.pn s.pc], Value.tuple #[Value.slice xx1.fst xx1.snd.snd.length xx1.snd.fst, Value.bool true], Value.slice xx1.fst xx1.snd.snd.length xx1.snd.fst, Value.bool true, pv xx2 0, Value.bool true, Value.bool false, Value.bool false, pv xx2 0, Value.bool false, Value.bool false, Value.agg #[Value.slice t.ra t.rn t.rc, Value.slice t.oa t.on t.oc, Value.slice t.pa t.pn t.pc], pv xx2 0, tu, iv n, iv (↑xx4 : Int), iv 0, Value.bool false, (((0 : Int), σ), J).snd (34 : Nat), (((0 : Int), σ), J).snd (35 : Nat), (((0 : Int), σ), J).snd (36 : Nat), (((0 : Int), σ), J).snd (37 : Nat), pv xx2 0, tu, iv 8192, Value.bool false, (((8192 : Nat), υ), J2).snd (42 : Nat), (((8192 : Nat), υ), J2).snd (43 : Nat), (((8192 : Nat), υ), J2).snd (44 : Nat), (((8192 : Nat), υ), J2).snd (45 : Nat), (((8192 : Nat), υ), J2).snd (46 : Nat), (((8192 : Nat), υ), J2).snd (47 : Nat), Value.agg #[Value.slice s.ra s.rn s.rc, Value.slice s.oa s.on s.oc, Value.slice s.pa s.pn s.pc], pv xx2 0, tu, pv xx2 0, Value.slice xx7.fst xx7.snd.snd.length xx7.snd.fst, J3 53, J3 54, J3 55, J3 56, J3 57, J3 58, tu, tu, tu, tu, tu, tu, tu, tu, tu, tu, tu, tu, tu, tu]) (L' := [ints (5 : TypeId) IntKind.u8 xx7.fst xx7.snd.fst xx7.snd.snd, PpR xx2 ((i, ω), J3).fst.snd, A, ints (5 : TypeId) IntKind.u8 xx1.fst xx1.snd.fst xx1.snd.snd, row xb2 (36 : TypeId) [Value.slice t.ra t.rn t.rc, Value.slice t.oa t.on t.oc, Value.slice t.pa t.pn t.pc], row xb1 (36 : TypeId) [Value.slice s.ra s.rn s.rc, Value.slice s.oa s.on s.oc, Value.slice s.pa s.pn s.pc]]) (by kernel_rfl) rfl ?_)
      by_cases hlt4 : i < 1140
      · have htk : Does Try.prog 38 [pt xx2] [PpR xx2 ω] (RetE (fun x : Pp × Int => x.1 = tickP ω ∧ x.1.Ok) (fun x => .int .i64 x.2) (fun x => [PpR xx2 x.1])) :=
          (tick_d xx2 ω hok4).mono fun _ _ ⟨x, ⟨h1, _, h3, _⟩, e1, e2⟩ => ⟨x, ⟨h1, h3⟩, e1, e2⟩
        (focus
          refine Xg.at_seq ?_
          refine Xg.at_seq ?_
          refine Xg.at_region ?_
          refine Xg.ops_op (by kernel_rfl) (Xg.opx_pure ((iv (↑i : Int))) rfl (fun _ => by kernel_rfl) ?_)
          refine Xg.ops_op (by kernel_rfl) (Xg.opx_pure (.bool (decide ((((↑i : Int)) : Int) < ((1140 : Int))))) rfl (fun _ => by kernel_rfl) ?_)
          refine Xg.ops_nil ?_
          refine Xg.at_true (t := decide (((↑i : Int) < (1140 : Int)))) (by kernel_rfl) (decide_eq_true (by omega)) ?_
          refine Xg.at_skip ?_
          refine Xg.at_seq ?_
          refine Xg.at_block ?_
          refine Xg.at_region ?_
          refine Xg.ops_op (by kernel_rfl) (Xg.opx_pure ((pv xx2 0)) rfl (fun _ => by kernel_rfl) ?_)
          refine Xg.ops_op (by kernel_rfl) (Xg.opx_callE' [1] (fun xx8 => [PpR xx2 xx8.fst, ints (5 : TypeId) IntKind.u8 xx7.fst xx7.snd.fst xx7.snd.snd, A, ints (5 : TypeId) IntKind.u8 xx1.fst xx1.snd.fst xx1.snd.snd, row xb2 (36 : TypeId) [Value.slice t.ra t.rn t.rc, Value.slice t.oa t.on t.oc, Value.slice t.pa t.pn t.pc], row xb1 (36 : TypeId) [Value.slice s.ra s.rn s.rc, Value.slice s.oa s.on s.oc, Value.slice s.pa s.pn s.pc]]) (fun _ => by kernel_rfl) (@htk ) (by kernel_rfl) (by kernel_rfl) (by kernel_rfl) fun xx8 xh8 => ?_)
          try dsimp only at xh8
          obtain ⟨xh8_0, xh8_1⟩ := xh8
          refine Xg.ops_nil ?_
          refine Xg.at_inBlock ?_
          refine Xg.at_region ?_
          refine Xg.ops_op (by kernel_rfl) (Xg.opx_pure ((iv (↑i : Int))) rfl (fun _ => by kernel_rfl) ?_)
          refine Xg.ops_op (by kernel_rfl) (Xg.opx_int .i64 (IntKind.wrap .i64 (((↑i : Int) + (1 : Int)))) rfl (fun _ => by kernel_rfl) (Xg.wrap_i64_in (by omega)) ?_)
          refine Xg.ops_op (by kernel_rfl) (Xg.opx_pure ((iv ((↑i : Int) + (1 : Int)))) rfl (fun _ => by kernel_rfl) ?_)
          refine Xg.ops_nil ?_
          refine Xg.at_inLoop ?_)
        (focus
          refine Xg.at_keep [1, 0, 2, 3, 4, 5] (by kernel_rfl) ?_
          refine Xg.At.same (by kernel_rfl) ?_ (ih (((i + 1, xx8.1)), fun j => ([Value.agg #[Value.slice s.ra s.rn s.rc, Value.slice s.oa s.on s.oc, Value.slice s.pa s.pn s.pc], Value.agg #[Value.slice t.ra t.rn t.rc, Value.slice t.oa t.on t.oc, Value.slice t.pa t.pn t.pc], iv n, pv xb1 0, pv xb2 0, tu, Value.bool false, Value.slice xx1.fst xx1.snd.snd.length xx1.snd.fst, Value.bool true, pv xx2 0, iv 0, iv 8192, Value.slice xx7.fst xx7.snd.snd.length xx7.snd.fst, iv ((↑i : Int) + (1 : Int)), tu, Value.tuple #[Value.slice xx1.fst xx1.snd.snd.length xx1.snd.fst, Value.bool true], Value.agg #[Value.slice s.ra s.rn s.rc, Value.slice s.oa s.on s.oc, Value.slice s.pa s.pn s.pc], Value.tuple #[Value.slice xx1.fst xx1.snd.snd.length xx1.snd.fst, Value.bool true], Value.slice xx1.fst xx1.snd.snd.length xx1.snd.fst, Value.bool true, pv xx2 0, Value.bool true, Value.bool false, Value.bool false, pv xx2 0, Value.bool false, Value.bool false, Value.agg #[Value.slice t.ra t.rn t.rc, Value.slice t.oa t.on t.oc, Value.slice t.pa t.pn t.pc], pv xx2 0, tu, iv n, iv (↑xx4 : Int), iv 0, Value.bool false, (((0 : Int), σ), J).snd (34 : Nat), (((0 : Int), σ), J).snd (35 : Nat), (((0 : Int), σ), J).snd (36 : Nat), (((0 : Int), σ), J).snd (37 : Nat), pv xx2 0, tu, iv 8192, Value.bool false, (((8192 : Nat), υ), J2).snd (42 : Nat), (((8192 : Nat), υ), J2).snd (43 : Nat), (((8192 : Nat), υ), J2).snd (44 : Nat), (((8192 : Nat), υ), J2).snd (45 : Nat), (((8192 : Nat), υ), J2).snd (46 : Nat), (((8192 : Nat), υ), J2).snd (47 : Nat), Value.agg #[Value.slice s.ra s.rn s.rc, Value.slice s.oa s.on s.oc, Value.slice s.pa s.pn s.pc], pv xx2 0, tu, pv xx2 0, Value.slice xx7.fst xx7.snd.snd.length xx7.snd.fst, iv (↑i : Int), Value.bool (decide ((↑i : Int) < (1140 : Int))), iv (↑i : Int), iv ((↑i : Int) + (1 : Int)), pv xx2 0, iv xx8.snd, tu, tu, tu, tu, tu, tu, tu, tu, tu, tu, tu, tu, tu, tu] : List Value).getD j undef) ?_ ?_))
        · rfl
        · exact ⟨by dsimp only; omega, by rw [show xx8.1 = tickP ω by assumption, hw]; exact (ticks_next _ _).symm, by assumption⟩
        · dsimp only; omega
      · clear ih
        have hi9 : i = 1140 := by omega
        subst hi9
        have hd2 : Done s newP.vram ω := by rw [hw]; exact hnx
        clear hw hnx
        have hone2 := one_h s xx2 ω hd2
        clear hsh hset hset2
        (focus
          refine Xg.at_seq ?_
          refine Xg.at_seq ?_
          refine Xg.at_region ?_
          refine Xg.ops_op (by kernel_rfl) (Xg.opx_pure ((iv 1140)) rfl (fun _ => by kernel_rfl) ?_)
          refine Xg.ops_op (by kernel_rfl) (Xg.opx_pure ((Value.bool false)) rfl (fun _ => by kernel_rfl) ?_)
          refine Xg.ops_nil ?_
          refine Xg.at_false (t := false) (by kernel_rfl) rfl ?_
          refine Xg.at_exit rfl ?_
          refine Xg.at_seq ?_
          refine Xg.at_region ?_
          refine Xg.ops_op (by kernel_rfl) (Xg.opx_pure ((pv xx2 0)) rfl (fun _ => by kernel_rfl) ?_)
          refine Xg.ops_op (by kernel_rfl) (Xg.opx_callE' [1] (fun xx8 => [ints (5 : TypeId) IntKind.u8 xx8.fst xx8.snd.fst xx8.snd.snd, PpR xx2 (T16 ω), ints (5 : TypeId) IntKind.u8 xx7.fst xx7.snd.fst xx7.snd.snd, A, ints (5 : TypeId) IntKind.u8 xx1.fst xx1.snd.fst xx1.snd.snd, row xb2 (36 : TypeId) [Value.slice t.ra t.rn t.rc, Value.slice t.oa t.on t.oc, Value.slice t.pa t.pn t.pc], row xb1 (36 : TypeId) [Value.slice s.ra s.rn s.rc, Value.slice s.oa s.on s.oc, Value.slice s.pa s.pn s.pc]]) (fun _ => by kernel_rfl) (@hone2 ) (by kernel_rfl) (by kernel_rfl) (by kernel_rfl) fun xx8 xh8 => ?_)
          try dsimp only at xh8
          obtain ⟨xh8_0, xh8_1⟩ := xh8
          refine Xg.ops_op (by kernel_rfl) (Xg.opx_pure ((Value.slice xx8.fst xx8.snd.snd.length xx8.snd.fst)) rfl (fun _ => by kernel_rfl) ?_)
          refine Xg.ops_nil ?_
          refine Xg.at_seq ?_
          refine Xg.at_region ?_
          refine Xg.ops_op (by kernel_rfl) (Xg.opx_pure ((Value.slice xx1.fst xx1.snd.snd.length xx1.snd.fst)) rfl (fun _ => by kernel_rfl) ?_)
          refine Xg.ops_op (by kernel_rfl) (Xg.opx_rd 4 (.string (Xg.St xx1.snd.snd)) rfl (Xg.reads_own (E := ((5 : TypeId))) (sz := ((1 : Nat))) (n := xx1.snd.snd.length) (c := xx1.snd.fst) (a := xx1.fst) (vs := (List.map (Value.int IntKind.u8) xx1.snd.snd))) (by kernel_rfl) (Xg.run_str_rd (e := 5) (a := xx1.fst) (n := xx1.snd.snd.length) (c := xx1.snd.fst) (xs := xx1.snd.snd) (by kernel_rfl) (by kernel_rfl) (by kernel_rfl) (by kernel_rfl)) ?_)
          refine Xg.ops_op (by kernel_rfl) (Xg.opx_pure ((Value.slice xx7.fst xx7.snd.snd.length xx7.snd.fst)) rfl (fun _ => by kernel_rfl) ?_)
          refine Xg.ops_op (by kernel_rfl) (Xg.opx_rd 2 (.string (Xg.St xx7.snd.snd)) rfl (Xg.reads_own (E := ((5 : TypeId))) (sz := ((1 : Nat))) (n := xx7.snd.snd.length) (c := xx7.snd.fst) (a := xx7.fst) (vs := (List.map (Value.int IntKind.u8) xx7.snd.snd))) (by kernel_rfl) (Xg.run_str_rd (e := 5) (a := xx7.fst) (n := xx7.snd.snd.length) (c := xx7.snd.fst) (xs := xx7.snd.snd) (by kernel_rfl) (by kernel_rfl) (by kernel_rfl) (by kernel_rfl)) ?_)
          refine Xg.ops_op (by kernel_rfl) (Xg.opx_run (.bool (Xg.sEq xx1.snd.snd xx7.snd.snd)) rfl (Xg.run_str_eq (xs := xx1.snd.snd) (ys := xx7.snd.snd) (by kernel_rfl) (by kernel_rfl) (by kernel_rfl)) ?_)
          refine Xg.ops_op (by kernel_rfl) (Xg.opx_pure ((Value.bool (sEq xx1.snd.snd xx7.snd.snd))) rfl (fun _ => by kernel_rfl) ?_)
          refine Xg.ops_flag (j := 66) (c := (sEq xx1.snd.snd xx7.snd.snd)) (by kernel_rfl) (fun xh9 => ?_) (fun xh9 => ?_)
          refine Xg.ops_op (by kernel_rfl) (Xg.opx_pure ((Value.slice xx1.fst xx1.snd.snd.length xx1.snd.fst)) rfl (fun _ => by kernel_rfl) ?_)
          refine Xg.ops_op (by kernel_rfl) (Xg.opx_rd 4 (.string (Xg.St xx1.snd.snd)) rfl (Xg.reads_own (E := ((5 : TypeId))) (sz := ((1 : Nat))) (n := xx1.snd.snd.length) (c := xx1.snd.fst) (a := xx1.fst) (vs := (List.map (Value.int IntKind.u8) xx1.snd.snd))) (by kernel_rfl) (Xg.run_str_rd (e := 5) (a := xx1.fst) (n := xx1.snd.snd.length) (c := xx1.snd.fst) (xs := xx1.snd.snd) (by kernel_rfl) (by kernel_rfl) (by kernel_rfl) (by kernel_rfl)) ?_)
          refine Xg.ops_op (by kernel_rfl) (Xg.opx_pure ((Value.slice xx8.fst xx8.snd.snd.length xx8.snd.fst)) rfl (fun _ => by kernel_rfl) ?_)
          refine Xg.ops_op (by kernel_rfl) (Xg.opx_rd 0 (.string (Xg.St xx8.snd.snd)) rfl (Xg.reads_own (E := ((5 : TypeId))) (sz := ((1 : Nat))) (n := xx8.snd.snd.length) (c := xx8.snd.fst) (a := xx8.fst) (vs := (List.map (Value.int IntKind.u8) xx8.snd.snd))) (by kernel_rfl) (Xg.run_str_rd (e := 5) (a := xx8.fst) (n := xx8.snd.snd.length) (c := xx8.snd.fst) (xs := xx8.snd.snd) (by kernel_rfl) (by kernel_rfl) (by kernel_rfl) (by kernel_rfl)) ?_)
          refine Xg.ops_op (by kernel_rfl) (Xg.opx_run (.bool (Xg.sEq xx1.snd.snd xx8.snd.snd)) rfl (Xg.run_str_eq (xs := xx1.snd.snd) (ys := xx8.snd.snd) (by kernel_rfl) (by kernel_rfl) (by kernel_rfl)) ?_)
          refine Xg.ops_flag (j := 71) (c := (sEq xx1.snd.snd xx8.snd.snd)) (by kernel_rfl) (fun xh10 => ?_) (fun xh10 => ?_)
          refine Xg.ops_op (by kernel_rfl) (Xg.opx_pure ((Value.bool true)) rfl (fun _ => by kernel_rfl) ?_)
          refine Xg.ops_op (by kernel_rfl) (Xg.opx_pure ((Value.bool true)) rfl (fun _ => by kernel_rfl) ?_)
          refine Xg.ops_nil ?_
          refine Xg.at_ret_ps (v := (Value.bool true)) [3] [A] Go.Proofs.Try.func12 (fun _ => by kernel_rfl) (by kernel_rfl) (by kernel_rfl) ?_
          exact ⟨by kernel_rfl, by kernel_rfl⟩
          refine Xg.ops_op (by kernel_rfl) (Xg.opx_pure ((Value.bool false)) rfl (fun _ => by kernel_rfl) ?_)
          refine Xg.ops_op (by kernel_rfl) (Xg.opx_pure ((Value.bool false)) rfl (fun _ => by kernel_rfl) ?_)
          refine Xg.ops_nil ?_
          refine Xg.at_ret_ps (v := (Value.bool false)) [3] [A] Go.Proofs.Try.func12 (fun _ => by kernel_rfl) (by kernel_rfl) (by kernel_rfl) ?_
          rotate_left
          refine Xg.ops_skip (by kernel_rfl) ?_
          refine Xg.ops_skip (by kernel_rfl) ?_
          refine Xg.ops_skip (by kernel_rfl) ?_
          refine Xg.ops_skip (by kernel_rfl) ?_
          refine Xg.ops_skip (by kernel_rfl) ?_
          refine Xg.ops_op (by kernel_rfl) (Xg.opx_pure ((Value.bool false)) rfl (fun _ => by kernel_rfl) ?_)
          refine Xg.ops_op (by kernel_rfl) (Xg.opx_pure ((Value.bool false)) rfl (fun _ => by kernel_rfl) ?_)
          refine Xg.ops_nil ?_
          refine Xg.at_ret_ps (v := (Value.bool false)) [3] [A] Go.Proofs.Try.func12 (fun _ => by kernel_rfl) (by kernel_rfl) (by kernel_rfl) ?_)
        · have e : xx1.2.2 = xx7.2.2 := shot_same (by assumption) (by assumption)
          rw [e, sEq_refl] at xh9
          exact absurd xh9 (by decide)
        · have e : xx1.2.2 = xx8.2.2 := shot_same (by assumption) (by assumption)
          rw [e, sEq_refl] at xh10
          exact absurd xh10 (by decide)

end Go.Proofs.Ytkfclamiendamaa
