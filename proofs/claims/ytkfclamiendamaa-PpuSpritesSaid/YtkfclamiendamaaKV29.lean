/- The picture's laws: plain scenes. -/
import Derived.Test.YtkfclamiendamaaKV28
import Derived.Test.YtkfclamiendamaaKS
namespace Go.Proofs.Ytkfclamiendamaa
open Go.Sl Go.Xg
set_option linter.unusedVariables false
set_option linter.unusedSimpArgs false
set_option maxHeartbeats 4000000
set_option maxRecDepth 100000

theorem does_weak {P : Program} {f : FuncId} {args : List Value} {pre pre' : List HP} {post post' : Value → List HP → Prop} (h : Does P f args pre post)
    (hpre : ∀ g F w, SL g (pre' ++ F) w → SL g (pre ++ F) w) (hpost : ∀ v ps, post v ps → ∃ ps', post' v ps' ∧ ∀ g F w, SL g (ps ++ F) w → SL g (ps' ++ F) w) : Does P f args pre' post' :=
  ⟨fun g F w hS => (h.run g F w (hpre g F w hS)).mono fun _ w' ⟨v, ps, h1, h2, h3⟩ => let ⟨ps', k1, k2⟩ := hpost v ps h1; ⟨v, ps', k1, h2, k2 g F w' h3⟩⟩
theorem seps2 {A B : HP} {F : List HP} {g w : World} : SL g (seps [A, B] :: F) w ↔ SL g (A :: B :: F) w := SL.flat (K := [A, B])
theorem seps2' {C A B : HP} {F : List HP} {g w : World} : SL g (C :: seps [A, B] :: F) w ↔ SL g (C :: A :: B :: F) w := by
  constructor
  · intro h
    have h1 : SL g (seps [A, B] :: C :: F) w := h.perm (List.Perm.swap _ _ _)
    exact (seps2.mp h1).perm ((List.Perm.cons A (List.Perm.swap C B F)).trans (List.Perm.swap C A (B :: F)))
  · intro h
    have h1 : SL g (A :: B :: C :: F) w := h.perm ((List.Perm.swap A C (B :: F)).trans (List.Perm.cons A (List.Perm.swap B C F)))
    exact (seps2.mpr h1).perm (List.Perm.swap _ _ _)
theorem reads_fst {A B : HP} {sz n : Nat} {s : Value} {vs : List Value} (h : Reads A sz s n vs) : Reads (seps [A, B]) sz s n vs := ⟨fun g F w hS => h.run g (B :: F) w (seps2.mp hS)⟩
theorem reads_snd {A B : HP} {sz n : Nat} {s : Value} {vs : List Value} (h : Reads B sz s n vs) : Reads (seps [A, B]) sz s n vs := ⟨fun g F w hS => h.run g (A :: F) w ((seps2.mp hS).perm (List.Perm.swap _ _ _))⟩
theorem reads_none {A : HP} {sz : Nat} : Reads A sz (.slice none 0 0) 0 [] := ⟨fun g F w hS => ⟨none, 0, rfl, by simp, by simp⟩⟩
theorem pc_snd {A B : HP} {x : Pc} (h : x.Ok B) : x.Ok (seps [A, B]) := ⟨h.len, h.max, h.at64, reads_snd h.rd, h.bd⟩

/-- A frame of a scene of which a part lies in a part of its own. -/
theorem shot_two (A B : HP) (s : Sn) (hs : s.Ok (seps [B, A])) : Does Try.prog 26 [snV s] [B, A] (RetE (fun x : Option Addr × Nat × List Int => Shot s x.2.2 ∧ x.2.2.length = 23040) (fun x => .tuple #[.slice x.1 x.2.2.length x.2.1, .bool true]) (fun x => [ints 5 .u8 x.1 x.2.1 x.2.2, B, A])) :=
  does_weak (shot_d (seps [B, A]) s hs) (fun g F w h => seps2.mpr h) fun v ps ⟨x, h1, h2, h3⟩ => ⟨_, ⟨x, h1, h2, rfl⟩, fun g F w h => by
    rw [h3] at h
    exact seps2'.mp h⟩

/-- Twelve registers of one's own. -/
abbrev rowR (b : Nat) (r0 r1 r2 r3 r4 r5 r6 r7 r8 r9 r10 r11 : Int) : HP := row b 3 [.int .i64 r0, .int .i64 r1, .int .i64 r2, .int .i64 r3, .int .i64 r4, .int .i64 r5, .int .i64 r6, .int .i64 r7, .int .i64 r8, .int .i64 r9, .int .i64 r10, .int .i64 r11]
/-- A scene by registers of one's own, the pieces another one's. -/
abbrev regS (b : Nat) (r0 r1 r2 r3 r4 r5 r6 r7 r8 r9 r10 r11 : Int) (s : Sn) : Sn := ⟨some ⟨b, 0, none⟩, 12, 12, [r0, r1, r2, r3, r4, r5, r6, r7, r8, r9, r10, r11], none, 0, 0, [], s.pa, s.pn, s.pc, s.ps⟩
theorem regS_ok {A : HP} {s : Sn} (hs : s.Ok A) (b : Nat) (r0 r1 r2 r3 r4 r5 r6 r7 r8 r9 r10 r11 : Int) (hb : ∀ x ∈ [r0, r1, r2, r3, r4, r5, r6, r7, r8, r9, r10, r11], i64ok x) : (regS b r0 r1 r2 r3 r4 r5 r6 r7 r8 r9 r10 r11 s).Ok (seps [rowR b r0 r1 r2 r3 r4 r5 r6 r7 r8 r9 r10 r11, A]) :=
  ⟨rfl, by show 12 ≤ 2 ^ 63 - 1; omega, reads_fst (reads_row (off := 0) rfl (has_all rfl)), fun i hi => hb _ (by
    have hi : i < 12 := hi
    rw [show [r0, r1, r2, r3, r4, r5, r6, r7, r8, r9, r10, r11].getD i 0 = [r0, r1, r2, r3, r4, r5, r6, r7, r8, r9, r10, r11][i] from by simp [List.getD, hi]]
    exact List.getElem_mem _), rfl, Nat.zero_le _, reads_none, fun i hi => absurd hi (Nat.not_lt_zero _), hs.plen, hs.pmax, reads_snd hs.prd, fun i hi => pc_snd (hs.pok i hi)⟩

set_option maxHeartbeats 0 in
theorem plain_d (A : HP) (s : Sn) (y x : Int) (hy : i64ok y) (hx : i64ok x) : Does Try.prog 33 [snV s, .int .i64 y, .int .i64 x] [A] (RetE (fun z : Nat × Nat × Nat => z.2.1 = pickN y 256 ∧ z.2.2 = pickN x 256 ∧ z.2.1 < 256 ∧ z.2.2 < 256) (fun z => .agg #[.slice (some ⟨z.1, 0, none⟩) 12 12, .slice none 0 0, .slice s.pa s.pn s.pc]) (fun z => [rowR z.1 145 0 (z.2.1 : Nat) (z.2.2 : Nat) 0 0 0 228 0 0 0 0, A])) := by
  (focus
    refine Xg.spec_of Go.Proofs.Try.func33 rfl Go.Proofs.Try.ntmps33 fun g F => ?_)
  (focus
    refine Xg.at_seq ?_
    refine Xg.at_region ?_
    refine Xg.ops_op (by kernel_rfl) (Xg.opx_box (v := (Value.agg #[Value.slice s.ra s.rn s.rc, Value.slice s.oa s.on s.oc, Value.slice s.pa s.pn s.pc])) [Value.slice s.ra s.rn s.rc, Value.slice s.oa s.on s.oc, Value.slice s.pa s.pn s.pc] (by kernel_rfl) (by kernel_rfl) fun xb1 => ?_)
    refine Xg.ops_op (by kernel_rfl) (Xg.opx_new 3 [Value.slice none (0 : Nat) (0 : Nat), Value.slice none (0 : Nat) (0 : Nat), Value.slice none (0 : Nat) (0 : Nat)] (by kernel_rfl) (by kernel_rfl) fun xb2 => ?_)
    refine Xg.ops_nil ?_
    refine Xg.at_seq ?_
    refine Xg.at_draw [1, 3, 4, 8] [(6, [0, 1, 2, 3, 4, 5, 6], Xg.CellIs (xb1) (((2 : Nat))) ((Value.slice s.pa s.pn s.pc)))] (by kernel_rfl) ?_
    refine Xg.any_pure ((iv y)) 0 (by kernel_rfl) rfl (by kernel_rfl) (by kernel_rfl) (by kernel_rfl) (by kernel_rfl) rfl (fun _ => by kernel_rfl) ?_
    refine Xg.any_pure ((iv x)) 2 (by kernel_rfl) rfl (by kernel_rfl) (by kernel_rfl) (by kernel_rfl) (by kernel_rfl) rfl (fun _ => by kernel_rfl) ?_
    refine Xg.any_pure ((pv xb1 2)) 5 (by kernel_rfl) rfl (by kernel_rfl) (by kernel_rfl) (by kernel_rfl) (by kernel_rfl) rfl (fun _ => by kernel_rfl) ?_
    refine Xg.any_reads (Value.slice s.pa s.pn s.pc) 6 0 (by kernel_rfl) rfl (by kernel_rfl) (by kernel_rfl) (by kernel_rfl) (by kernel_rfl) rfl rfl (by kernel_rfl) (Xg.cell_now (b := xb1) (off := ((2 : Nat))) 1 rfl (by kernel_rfl)) (fun _ h => Xg.run_load (by kernel_rfl) (by kernel_rfl) h) ?_
    refine Xg.any_each [1] (by kernel_rfl) rfl ⟨?_, trivial⟩
    refine Xg.comes_act rfl (by kernel_rfl) (by kernel_rfl) (Xg.opx_callE' [] (fun xx1 => [row xb2 (36 : Nat) [Value.slice none (0 : Nat) (0 : Nat), Value.slice none (0 : Nat) (0 : Nat), Value.slice none (0 : Nat) (0 : Nat)], row xb1 (36 : Nat) [Value.slice s.ra s.rn s.rc, Value.slice s.oa s.on s.oc, Value.slice s.pa s.pn s.pc], A]) (fun _ => by kernel_rfl) (@Go.Proofs.Ytkfclamiendamaa.pick_d (y) ((nat_lit 256)) (by omega) (by first | rfl | decide | (constructor <;> omega) | (simp; done) | (simp; omega))) (by kernel_rfl) (by kernel_rfl) (by kernel_rfl) fun xx1 xh1 => ?_)
    try dsimp only at xh1
    obtain ⟨xh1_0, xh1_1⟩ := xh1
    refine Xg.acts (Xg.owes_cell 1 rfl (by kernel_rfl) Xg.owes_nil) ?_
    refine Xg.any_each [3] (by kernel_rfl) rfl ⟨?_, trivial⟩
    refine Xg.comes_act rfl (by kernel_rfl) (by kernel_rfl) (Xg.opx_callE' [] (fun xx2 => [row xb2 (36 : Nat) [Value.slice none (0 : Nat) (0 : Nat), Value.slice none (0 : Nat) (0 : Nat), Value.slice none (0 : Nat) (0 : Nat)], row xb1 (36 : Nat) [Value.slice s.ra s.rn s.rc, Value.slice s.oa s.on s.oc, Value.slice s.pa s.pn s.pc], A]) (fun _ => by kernel_rfl) (@Go.Proofs.Ytkfclamiendamaa.pick_d (x) ((nat_lit 256)) (by omega) (by first | rfl | decide | (constructor <;> omega) | (simp; done) | (simp; omega))) (by kernel_rfl) (by kernel_rfl) (by kernel_rfl) fun xx2 xh2 => ?_)
    try dsimp only at xh2
    obtain ⟨xh2_0, xh2_1⟩ := xh2
    refine Xg.acts (Xg.owes_cell 1 rfl (by kernel_rfl) Xg.owes_nil) ?_
    refine Xg.any_each [4] (by kernel_rfl) rfl ⟨?_, trivial⟩
    refine Xg.comes_act rfl (by kernel_rfl) (by kernel_rfl) (Xg.opx_bs (elem := 3) 1 [iv 145, iv 0, iv (↑xx1 : Int), iv (↑xx2 : Int), iv 0, iv 0, iv 0, iv 228, iv 0, iv 0, iv 0, iv 0] [iv 145, iv 0, iv (↑xx1 : Int), iv (↑xx2 : Int), iv 0, iv 0, iv 0, iv 228, iv 0, iv 0, iv 0, iv 0] (by kernel_rfl) (by kernel_rfl) (by decide) rfl (by kernel_rfl) (by kernel_rfl) (by kernel_rfl) (by kernel_rfl) fun xb3 => ?_)
    refine Xg.acts (Xg.owes_cell 2 rfl (by kernel_rfl) Xg.owes_nil) ?_
    refine Xg.any_pure ((Value.agg #[Value.slice (some (Addr.mk xb3 (0 : Nat) none)) (12 : Nat) (12 : Nat), Value.slice none (0 : Nat) (0 : Nat), Value.slice s.pa s.pn s.pc])) 7 (by kernel_rfl) rfl (by kernel_rfl) (by kernel_rfl) (by kernel_rfl) (by kernel_rfl) rfl (fun _ => by kernel_rfl) ?_
    refine Xg.any_each [8] (by kernel_rfl) rfl ⟨?_, trivial⟩
    refine Xg.comes_act rfl (by kernel_rfl) (by kernel_rfl) (Xg.opx_storen 3 (off := 0) 1 [Value.slice (some (Addr.mk xb3 (0 : Nat) none)) (12 : Nat) (12 : Nat), Value.slice none (0 : Nat) (0 : Nat), Value.slice s.pa s.pn s.pc] (by kernel_rfl) rfl (by kernel_rfl) (by kernel_rfl) rfl (by kernel_rfl) (Nat.le_of_ble_eq_true (by kernel_rfl)) ?_)
    refine Xg.acts (Xg.owes_skip (by kernel_rfl) Xg.owes_nil) ?_
    refine Xg.any_nil (by kernel_rfl) ?_
    refine Xg.at_ret_feed (v := (Value.agg #[Value.slice (some (Addr.mk xb3 (0 : Nat) none)) (12 : Nat) (12 : Nat), Value.slice none (0 : Nat) (0 : Nat), Value.slice s.pa s.pn s.pc])) [(Addr.mk xb2 (0 : Nat) none), (Addr.mk xb2 (1 : Nat) none), (Addr.mk xb2 (2 : Nat) none)] [Value.slice (some (Addr.mk xb3 (0 : Nat) none)) (12 : Nat) (12 : Nat), Value.slice none (0 : Nat) (0 : Nat), Value.slice s.pa s.pn s.pc] [0, 3] [row xb3 (3 : TypeId) [iv 145, iv 0, iv (↑xx1 : Int), iv (↑xx2 : Int), iv 0, iv 0, iv 0, iv 228, iv 0, iv 0, iv 0, iv 0], A] Go.Proofs.Try.func33 (by kernel_rfl) (Xg.cells_cons (b := xb2) (off := 0) 1 rfl (by kernel_rfl) (Xg.cells_cons (b := xb2) (off := 1) 1 rfl (by kernel_rfl) (Xg.cells_cons (b := xb2) (off := 2) 1 rfl (by kernel_rfl) Xg.cells_nil))) (by kernel_rfl) (by kernel_rfl) ?_
    refine ⟨((xb3, xx1, xx2)), ?_, by kernel_rfl, by kernel_rfl⟩)
  all_goals first | exact ⟨by assumption, by assumption, by assumption, by assumption⟩ | rfl

/-- A frame of such a scene. -/
theorem shot_reg (A : HP) (s : Sn) (hs : s.Ok A) (b : Nat) (r0 r1 r2 r3 r4 r5 r6 r7 r8 r9 r10 r11 : Int) (hb : ∀ x ∈ [r0, r1, r2, r3, r4, r5, r6, r7, r8, r9, r10, r11], i64ok x) : Does Try.prog 26 [.agg #[.slice (some ⟨b, 0, none⟩) 12 12, .slice none 0 0, .slice s.pa s.pn s.pc]] [rowR b r0 r1 r2 r3 r4 r5 r6 r7 r8 r9 r10 r11, A]
    (RetE (fun x : Option Addr × Nat × List Int => Shot (regS b r0 r1 r2 r3 r4 r5 r6 r7 r8 r9 r10 r11 s) x.2.2 ∧ x.2.2.length = 23040) (fun x => .tuple #[.slice x.1 x.2.2.length x.2.1, .bool true]) (fun x => [ints 5 .u8 x.1 x.2.1 x.2.2, rowR b r0 r1 r2 r3 r4 r5 r6 r7 r8 r9 r10 r11, A])) :=
  shot_two A _ _ (regS_ok hs b r0 r1 r2 r3 r4 r5 r6 r7 r8 r9 r10 r11 hb)

end Go.Proofs.Ytkfclamiendamaa
