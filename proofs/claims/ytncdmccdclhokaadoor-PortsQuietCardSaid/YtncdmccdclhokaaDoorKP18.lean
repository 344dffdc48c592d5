/- The ports' laws: Load. -/
import Derived.Test.YtncdmccdclhokaaDoorKP14
import Derived.Test.YtncdmccdclhokaaDoorG13
namespace Go.Proofs.YtncdmccdclhokaaDoor
open Go.Sl Go.Xg
set_option linter.unusedVariables false
set_option linter.unusedSimpArgs false
set_option maxHeartbeats 4000000
set_option maxRecDepth 100000
variable {te : TypeId}

theorem nz_d (v : Int) (h : 0 ≤ v ∧ v ≤ 255) : Does Tryd.prog 37 [.int .u8 v] [] (Ret (.bool (!decide (v = 0))) []) := by
  (focus
    refine Xg.spec_of Go.Proofs.Tryd.func37 rfl Go.Proofs.Tryd.ntmps37 fun g F => ?_)
  (focus
    refine Xg.at_seq ?_
    refine Xg.at_region ?_
    refine Xg.ops_op (by kernel_rfl) (Xg.opx_pure ((Value.bool false)) rfl (fun _ => by kernel_rfl) ?_)
    refine Xg.ops_nil ?_
    refine Xg.at_seq ?_
    refine Xg.at_region ?_
    refine Xg.ops_op (by kernel_rfl) (Xg.opx_pure ((Value.int IntKind.u8 v)) rfl (fun _ => by kernel_rfl) ?_)
    refine Xg.ops_op (by kernel_rfl) (Xg.opx_pure (.bool (!decide ((v : Int) = ((0 : Int))))) rfl (fun _ => by kernel_rfl) ?_)
    refine Xg.ops_op (by kernel_rfl) (Xg.opx_pure ((Value.bool !decide (v = (0 : Int)))) rfl (fun _ => by kernel_rfl) ?_)
    refine Xg.ops_nil ?_
    refine Xg.at_ret_ps (v := (Value.bool !decide (v = (0 : Int)))) [] [] Go.Proofs.Tryd.func37 (fun _ => by kernel_rfl) (by kernel_rfl) (by kernel_rfl) ?_
    exact ⟨by kernel_rfl, by kernel_rfl⟩)

theorem indexf_d (A : HP) (a : Option Addr) (n c : Nat) (ys : List Int) (hr : Reads A 1 (.slice a n c) n (ys.map (Value.int .u8))) (hn : ys.length = n) (hn2 : n ≤ 1000000) (hB : isB ys) :
    Does Tryd.prog 62 [.slice a n c, .func (.func 37) #[] #[]] [A]
      (RetE (fun r : Int => (r = -1 ∧ ∀ i, i < n → ys.getD i 0 = 0) ∨ (0 ≤ r ∧ ∃ i, i < n ∧ ys.getD i 0 ≠ 0)) (fun r => .int .i64 r) (fun _ => [A])) := by
  (focus
    refine Xg.spec_of Go.Proofs.Tryd.func62 rfl Go.Proofs.Tryd.ntmps62 fun g F => ?_)
  (focus
    refine Xg.at_seq ?_
    refine Xg.at_region ?_
    refine Xg.ops_op (by kernel_rfl) (Xg.opx_pure ((Value.int IntKind.i64 (0 : Int))) rfl (fun _ => by kernel_rfl) ?_)
    refine Xg.ops_nil ?_
    refine Xg.at_seq ?_
    refine Xg.at_seq ?_
    refine Xg.at_region ?_
    refine Xg.ops_op (by kernel_rfl) (Xg.opx_pure ((Value.slice a n c)) rfl (fun _ => by kernel_rfl) ?_)
    refine Xg.ops_op (by kernel_rfl) (Xg.opx_pure ((Value.int IntKind.i64 (↑n : Int))) rfl (fun _ => by kernel_rfl) ?_)
    refine Xg.ops_op (by kernel_rfl) (Xg.opx_pure ((Value.int IntKind.i64 (0 : Int))) rfl (fun _ => by kernel_rfl) ?_)
    refine Xg.ops_nil ?_
    refine Xg.at_block ?_)
  (focus
    refine Xg.at_rounds_inv (α := (Nat) × (Nat → Value)) (fun x => ((fun x => x ≤ n ∧ ∀ i, i < x → ys.getD i 0 = 0) : (Nat) → Prop) x.1) (fun x => ((fun x => n - x) : (Nat) → Nat) x.1) (fun x => Xg.headT [Value.slice a n c, Value.func (Fn.func (37 : Nat)) #[] #[], Value.tuple #[], Value.tuple #[], Value.int IntKind.i64 (0 : Int), Value.tuple #[], Value.slice a n c, Value.int IntKind.i64 (↑n : Int), Value.int IntKind.i64 (0 : Int), Value.tuple #[], Value.tuple #[], Value.tuple #[], Value.tuple #[], Value.tuple #[], Value.tuple #[], Value.tuple #[], Value.tuple #[], Value.tuple #[], Value.tuple #[]] [4, 5, 9, 10, 11, 12, 13, 14, 15, 16, 17, 18] (((fun x => [(8, .int .i64 (x : Nat))]) : (Nat) → List (Nat × Go.Value)) x.1) x.2) (fun x => ((fun _ => [A]) : (Nat) → List Go.Sl.HP) x.1) ((0), fun j => ([Value.slice a n c, Value.func (Fn.func (37 : Nat)) #[] #[], Value.tuple #[], Value.tuple #[], Value.int IntKind.i64 (0 : Int), Value.tuple #[], Value.slice a n c, Value.int IntKind.i64 (↑n : Int), Value.int IntKind.i64 (0 : Int), Value.tuple #[], Value.tuple #[], Value.tuple #[], Value.tuple #[], Value.tuple #[], Value.tuple #[], Value.tuple #[], Value.tuple #[], Value.tuple #[], Value.tuple #[]] : List Value).getD j undef) (by kernel_rfl) (by kernel_rfl) ?_ ?_)
  · exact ⟨Nat.zero_le _, fun i h => by omega⟩
  rintro ⟨i, J⟩ ⟨hi, hz⟩ ih
  dsimp only at hi hz
  (focus
    refine Xg.At.same (T' := [Value.slice a n c, Value.func (Fn.func (37 : Nat)) #[] #[], Value.tuple #[], Value.tuple #[], (i, J).snd (4 : Nat), (i, J).snd (5 : Nat), Value.slice a n c, Value.int IntKind.i64 (↑n : Int), Value.int IntKind.i64 (↑i : Int), (i, J).snd (9 : Nat), (i, J).snd (10 : Nat), (i, J).snd (11 : Nat), (i, J).snd (12 : Nat), (i, J).snd (13 : Nat), (i, J).snd (14 : Nat), (i, J).snd (15 : Nat), (i, J).snd (16 : Nat), (i, J).snd (17 : Nat), (i, J).snd (18 : Nat)]) (L' := [A]) (by kernel_rfl) rfl ?_)
  by_cases hlt : i < n
  · have hb := isB_get hB (i := i) (by omega)
    (focus
      refine Xg.at_seq ?_
      refine Xg.at_region ?_
      refine Xg.ops_op (by kernel_rfl) (Xg.opx_pure (.bool (decide ((((↑i : Int)) : Int) < ((↑n : Int))))) rfl (fun _ => by kernel_rfl) ?_)
      refine Xg.ops_nil ?_
      refine Xg.at_seq ?_
      refine Xg.at_true (t := decide (((↑i : Int) < (↑n : Int)))) (by kernel_rfl) (decide_eq_true (by omega)) ?_
      refine Xg.at_skip ?_
      refine Xg.at_seq ?_
      refine Xg.at_block ?_
      refine Xg.at_seq ?_
      refine Xg.at_region ?_
      refine Xg.ops_op (by kernel_rfl) (Xg.opx_pure ((Value.int IntKind.i64 (↑i : Int))) rfl (fun _ => by kernel_rfl) ?_)
      refine Xg.ops_op (by kernel_rfl) (Xg.opx_pure ((Value.int IntKind.i64 (↑i : Int))) rfl (fun _ => by kernel_rfl) ?_)
      refine Xg.ops_nil ?_
      refine Xg.at_seq ?_
      refine Xg.at_region ?_
      refine Xg.ops_op (by kernel_rfl) (Xg.opx_pure ((Value.func (Fn.func (37 : Nat)) #[] #[])) rfl (fun _ => by kernel_rfl) ?_)
      refine Xg.ops_op (by kernel_rfl) (Xg.opx_pure ((Value.slice a n c)) rfl (fun _ => by kernel_rfl) ?_)
      refine Xg.ops_op (by kernel_rfl) (Xg.opx_pure ((Value.int IntKind.i64 (↑i : Int))) rfl (fun _ => by kernel_rfl) ?_)
      refine Xg.ops_op (by kernel_rfl) (Xg.opx_rd 0 (.pointer (some (Addr.mk (Xg.blk a) (offA a + i) none))) rfl hr (by kernel_rfl) (Xg.run_ix_rd (elem := 5) (kd := .i64) (e := ((↑i : Int))) 1 i (offA a + i) (by kernel_rfl) (by kernel_rfl) (by kernel_rfl) (by kernel_rfl) rfl (by omega) (by simp only [List.length_map]; omega) (by omega)) ?_)
      refine Xg.ops_op (by kernel_rfl) (Xg.opx_rd 0 (Value.int IntKind.u8 (ys.getD i (0 : Int))) rfl hr (by kernel_rfl) (Xg.run_load_rd (off0 := (offA a + i)) i (by kernel_rfl) (by omega) (Xg.get_ints (by omega)) (by kernel_rfl)) ?_)
      refine Xg.ops_op (by kernel_rfl) (Xg.opx_call1' [] [A] (fun _ => by kernel_rfl) (@Go.Proofs.YtncdmccdclhokaaDoor.nz_d ((ys.getD i (0 : Int))) (by omega)) (by kernel_rfl) (by kernel_rfl) (by kernel_rfl) ?_)
      refine Xg.ops_nil ?_
      refine Xg.at_ndec (p := (ys.getD i (0 : Int) = (0 : Int))) (by kernel_rfl) (fun xh1 => ?_) (fun xh1 => ?_)
      refine Xg.at_seq ?_
      refine Xg.at_region ?_
      refine Xg.ops_op (by kernel_rfl) (Xg.opx_pure ((Value.int IntKind.i64 (↑i : Int))) rfl (fun _ => by kernel_rfl) ?_)
      refine Xg.ops_op (by kernel_rfl) (Xg.opx_pure ((Value.int IntKind.i64 (↑i : Int))) rfl (fun _ => by kernel_rfl) ?_)
      refine Xg.ops_nil ?_
      refine Xg.at_ret_ps (v := (Value.int IntKind.i64 (↑i : Int))) [0] [A] Go.Proofs.Tryd.func62 (fun _ => by kernel_rfl) (by kernel_rfl) (by kernel_rfl) ?_
      refine ⟨((↑i : Int)), ?_, by kernel_rfl, by kernel_rfl⟩
      rotate_left
      refine Xg.at_skip ?_
      refine Xg.at_inBlock ?_
      refine Xg.at_region ?_
      refine Xg.ops_op (by kernel_rfl) (Xg.opx_int .i64 (IntKind.wrap .i64 (((↑i : Int) + (1 : Int)))) rfl (fun _ => by kernel_rfl) (Xg.wrap_i64_in (by omega)) ?_)
      refine Xg.ops_op (by kernel_rfl) (Xg.opx_pure ((Value.int IntKind.i64 ((↑i : Int) + (1 : Int)))) rfl (fun _ => by kernel_rfl) ?_)
      refine Xg.ops_nil ?_
      refine Xg.at_inLoop ?_)
    · have h0 : ys.getD i 0 = 0 := by assumption
      (focus
        refine Xg.at_keep [0] (by kernel_rfl) ?_
        refine Xg.At.same (by kernel_rfl) ?_ (ih (((i + 1)), fun j => ([Value.slice a n c, Value.func (Fn.func (37 : Nat)) #[] #[], Value.tuple #[], Value.tuple #[], (i, J).snd (4 : Nat), Value.int IntKind.i64 (↑i : Int), Value.slice a n c, Value.int IntKind.i64 (↑n : Int), Value.int IntKind.i64 ((↑i : Int) + (1 : Int)), Value.bool (decide ((↑i : Int) < (↑n : Int))), Value.int IntKind.i64 (↑i : Int), Value.func (Fn.func (37 : Nat)) #[] #[], Value.slice a n c, Value.int IntKind.i64 (↑i : Int), Value.pointer (some (Addr.mk (blk a) (offA a + i) none)), Value.int IntKind.u8 (ys.getD i (0 : Int)), Value.bool !decide (ys.getD i (0 : Int) = (0 : Int)), (i, J).snd (17 : Nat), Value.int IntKind.i64 ((↑i : Int) + (1 : Int))] : List Value).getD j undef) ?_ ?_))
      · rfl
      · refine ⟨by dsimp only; omega, fun j hj => ?_⟩
        dsimp only at hj
        rcases Nat.lt_or_ge j i with h | h
        · exact hz j h
        · obtain rfl : j = i := by omega
          exact h0
      · dsimp only; omega
    · exact .inr ⟨by omega, i, hlt, by assumption⟩
  · (focus
      refine Xg.at_seq ?_
      refine Xg.at_region ?_
      refine Xg.ops_op (by kernel_rfl) (Xg.opx_pure (.bool (decide ((((↑i : Int)) : Int) < ((↑n : Int))))) rfl (fun _ => by kernel_rfl) ?_)
      refine Xg.ops_nil ?_
      refine Xg.at_seq ?_
      refine Xg.at_false (t := decide (((↑i : Int) < (↑n : Int)))) (by kernel_rfl) (decide_eq_false (by omega)) ?_
      refine Xg.at_exit rfl ?_
      refine Xg.at_seq ?_
      refine Xg.at_region ?_
      refine Xg.ops_op (by kernel_rfl) (Xg.opx_pure ((Value.int IntKind.i64 (-1 : Int))) rfl (fun _ => by kernel_rfl) ?_)
      refine Xg.ops_nil ?_
      refine Xg.at_ret_ps (v := (Value.int IntKind.i64 (-1 : Int))) [0] [A] Go.Proofs.Tryd.func62 (fun _ => by kernel_rfl) (by kernel_rfl) (by kernel_rfl) ?_
      refine ⟨((-1 : Int)), ?_, by kernel_rfl, by kernel_rfl⟩)
    exact .inl ⟨rfl, fun j hj => hz j (by omega)⟩

theorem containsf_d (A : HP) (a : Option Addr) (n c : Nat) (ys : List Int) (hr : Reads A 1 (.slice a n c) n (ys.map (Value.int .u8))) (hn : ys.length = n) (hn2 : n ≤ 1000000) (hB : isB ys) :
    Does Tryd.prog 36 [.slice a n c, .func (.func 37) #[] #[]] [A]
      (RetE (fun b : Bool => b = true ↔ ∃ i, i < n ∧ ys.getD i 0 ≠ 0) (fun b => .bool b) (fun _ => [A])) := by
  (focus
    refine Xg.spec_of Go.Proofs.Tryd.func36 rfl Go.Proofs.Tryd.ntmps36 fun g F => ?_)
  (focus
    refine Xg.at_seq ?_
    refine Xg.at_region ?_
    refine Xg.ops_op (by kernel_rfl) (Xg.opx_pure ((Value.bool false)) rfl (fun _ => by kernel_rfl) ?_)
    refine Xg.ops_nil ?_
    refine Xg.at_seq ?_
    refine Xg.at_region ?_
    refine Xg.ops_op (by kernel_rfl) (Xg.opx_pure ((Value.slice a n c)) rfl (fun _ => by kernel_rfl) ?_)
    refine Xg.ops_op (by kernel_rfl) (Xg.opx_pure ((Value.func (Fn.func (37 : Nat)) #[] #[])) rfl (fun _ => by kernel_rfl) ?_)
    refine Xg.ops_op (by kernel_rfl) (Xg.opx_callE' [0] (fun xx1 => [A]) (fun _ => by kernel_rfl) (@Go.Proofs.YtncdmccdclhokaaDoor.indexf_d (A) (a) (n) (c) (ys) (by omega) (by omega) (by omega) (by omega)) (by kernel_rfl) (by kernel_rfl) (by kernel_rfl) fun xx1 xh1 => ?_)
    try dsimp only at xh1
    refine Xg.ops_op (by kernel_rfl) (Xg.opx_pure (.bool (decide ((xx1 : Int) ≥ ((0 : Int))))) rfl (fun _ => by kernel_rfl) ?_)
    refine Xg.ops_op (by kernel_rfl) (Xg.opx_pure ((Value.bool (decide (xx1 ≥ (0 : Int))))) rfl (fun _ => by kernel_rfl) ?_)
    refine Xg.ops_nil ?_
    refine Xg.at_ret_ps (v := (Value.bool (decide (xx1 ≥ (0 : Int))))) [0] [A] Go.Proofs.Tryd.func36 (fun _ => by kernel_rfl) (by kernel_rfl) (by kernel_rfl) ?_
    refine ⟨(decide (xx1 ≥ (0 : Int))), ?_, by kernel_rfl, by kernel_rfl⟩)
  rcases xh1 with ⟨h1, h2⟩ | ⟨h1, h2⟩
  · rw [decide_eq_true_eq]
    constructor
    · intro h; omega
    · rintro ⟨i, hi, hne⟩; exact absurd (h2 i hi) hne
  · rw [decide_eq_true_eq]
    exact ⟨fun _ => h2, fun _ => by omega⟩

def goesI (xs : List Int) : Int := bor .i64 (xs.getD 11 0) (xs.getD 12 0 * 256)

structure LoadOK (xs : List Int) : Prop where
  len : xs.length = 19
  r1 : bclr .u8 (xs.getD 1 0) 48 = 0
  r3 : bclr .u8 (xs.getD 3 0) 129 = 0
  r8 : bclr .u8 (xs.getD 8 0) 7 = 0
  r9 : bclr .u8 (xs.getD 9 0) 31 = 0
  r10 : xs.getD 10 0 ≤ 4
  goes : goesI xs ≤ 4096
  line : goesI xs > 0 ↔ xs.getD 3 0 = 129
  send : goesI xs = 0 → xs.getD 13 0 = 0
  zeros : ∀ i, i < 5 → (xs.drop 14).getD i 0 = 0

def ldP (xs : List Int) : Po :=
  ⟨xs.getD 0 0, xs.getD 1 0, xs.getD 2 0, xs.getD 3 0, bor .u16 (xs.getD 4 0) (xs.getD 5 0 * 256), xs.getD 6 0, xs.getD 7 0, xs.getD 8 0, xs.getD 9 0, xs.getD 10 0, goesI xs, xs.getD 13 0⟩

theorem goesI_bd {xs : List Int} (hB : isB xs) (hl : xs.length = 19) : goesI xs = xs.getD 11 0 + xs.getD 12 0 * 256 := by
  have h11 := isB_get hB (i := 11) (by omega)
  have h12 := isB_get hB (i := 12) (by omega)
  obtain ⟨a, ha⟩ := nat_of h11.1
  obtain ⟨b, hb⟩ := nat_of h12.1
  unfold goesI
  rw [ha] at h11
  rw [hb] at h12
  rw [ha, hb]
  exact bor_add (by omega) (.inr ⟨rfl, by omega⟩)

set_option maxHeartbeats 0 in
theorem load_ok (p : Nat) (σ : Po) (s : Value) (A : HP) (sa : Option Addr) (n sc : Nat) (xs : List Int) (hr : Reads A 1 (.slice sa n sc) n (xs.map (Value.int .u8))) (hn : xs.length = n) (hnc : n ≤ sc) (hB : isB xs) (h : LoadOK xs) :
    Does Tryd.prog 24 [pt p, .slice sa n sc] [PoR p σ s, A] (Ret (.int .i64 0) [PoR p (ldP xs) (.slice none 0 0), A]) := by
  obtain ⟨hlen, r1, r3, r8, r9, r10, hg, hli, hse, hz⟩ := h
  have hgb := goesI_bd hB hlen
  unfold goesI at hgb hg hli hse
  obtain rfl : n = 19 := by omega
  have b0 := isB_get hB (i := 0) (by omega)
  have b3 := isB_get hB (i := 3) (by omega)
  have b4 := isB_get hB (i := 4) (by omega)
  have b5 := isB_get hB (i := 5) (by omega)
  have b10 := isB_get hB (i := 10) (by omega)
  have b11 := isB_get hB (i := 11) (by omega)
  have b12 := isB_get hB (i := 12) (by omega)
  have b13 := isB_get hB (i := 13) (by omega)
  have hsub := reads_sub1 hr 14 (by omega) hnc
  have hct : Does Tryd.prog 36 [.slice (subA sa sc 14 1) (19 - 14) (sc - 14), .func (.func 37) #[] #[]] [A] (Ret (.bool false) [A]) := by
    refine (containsf_d A _ _ _ (xs.drop 14) hsub (by simp [hlen]) (by omega) (isB_drop 14 hB)).mono fun v ps ⟨b, hb, e1, e2⟩ => ⟨?_, e2⟩
    have : b = false := by
      cases b with
      | false => rfl
      | true =>
        obtain ⟨i, hi, hne⟩ := hb.1 rfl
        exact absurd (hz i (by omega)) hne
    rw [e1, this]
  by_cases hline : xs.getD 3 0 = 129
  · have hgp := hli.2 hline
    (focus
      refine Xg.spec_of Go.Proofs.Tryd.func24 rfl Go.Proofs.Tryd.ntmps24 fun g F => ?_)
    (focus
      refine Xg.at_seq ?_
      refine Xg.at_region ?_
      refine Xg.ops_op (by kernel_rfl) (Xg.opx_pure ((Value.int IntKind.i64 (0 : Int))) rfl (fun _ => by kernel_rfl) ?_)
      refine Xg.ops_nil ?_
      refine Xg.at_seq ?_
      refine Xg.at_seq ?_
      refine Xg.at_region ?_
      refine Xg.ops_op (by kernel_rfl) (Xg.opx_pure ((Value.slice sa (19 : Nat) sc)) rfl (fun _ => by kernel_rfl) ?_)
      refine Xg.ops_op (by kernel_rfl) (Xg.opx_pure ((Value.int IntKind.i64 (19 : Int))) rfl (fun _ => by kernel_rfl) ?_)
      refine Xg.ops_op (by kernel_rfl) (Xg.opx_pure ((Value.bool false)) rfl (fun _ => by kernel_rfl) ?_)
      refine Xg.ops_op (by kernel_rfl) (Xg.opx_pure ((Value.bool false)) rfl (fun _ => by kernel_rfl) ?_)
      refine Xg.ops_op (by kernel_rfl) (Xg.opx_pure ((Value.slice sa (19 : Nat) sc)) rfl (fun _ => by kernel_rfl) ?_)
      refine Xg.ops_op (by kernel_rfl) (Xg.opx_rd 1 (.pointer (some (Addr.mk (Xg.blk sa) (offA sa + (1 : Nat)) none))) rfl hr (by kernel_rfl) (Xg.run_ix_rd (elem := 5) (kd := .i64) (e := ((1 : Int))) 1 ((1 : Nat)) (offA sa + (1 : Nat)) (by kernel_rfl) (by kernel_rfl) (by kernel_rfl) (by kernel_rfl) rfl (by omega) (by simp only [List.length_map]; omega) (by omega)) ?_)
      refine Xg.ops_op (by kernel_rfl) (Xg.opx_rd 1 (Value.int IntKind.u8 (xs.getD (1 : Nat) (0 : Int))) rfl hr (by kernel_rfl) (Xg.run_load_rd (off0 := (offA sa + (1 : Nat))) ((1 : Nat)) (by kernel_rfl) (by omega) (Xg.get_ints (by omega)) (by kernel_rfl)) ?_)
      refine Xg.ops_op (by kernel_rfl) (Xg.opx_pure (.int .u8 (Xg.bclr .u8 ((xs.getD (1 : Nat) (0 : Int))) (((48 : Int))))) rfl (fun _ => by kernel_rfl) ?_)
      refine Xg.ops_op (by kernel_rfl) (Xg.opx_pure (.bool (!decide (((bclr IntKind.u8 (xs.getD (1 : Nat) (0 : Int)) (48 : Int)) : Int) = ((0 : Int))))) rfl (fun _ => by kernel_rfl) ?_)
      refine Xg.ops_op (by kernel_rfl) (Xg.opx_pure ((Value.bool !decide (bclr IntKind.u8 (xs.getD (1 : Nat) (0 : Int)) (48 : Int) = (0 : Int)))) rfl (fun _ => by kernel_rfl) ?_)
      refine Xg.ops_op (by kernel_rfl) (Xg.opx_pure ((Value.bool !decide (bclr IntKind.u8 (xs.getD (1 : Nat) (0 : Int)) (48 : Int) = (0 : Int)))) rfl (fun _ => by kernel_rfl) ?_)
      refine Xg.ops_flag (j := 16) (c := (!decide (bclr IntKind.u8 (xs.getD (1 : Nat) (0 : Int)) (48 : Int) = (0 : Int)))) (by kernel_rfl) (fun xh1 => absurd xh1 (by rw [decide_eq_true (p := (bclr IntKind.u8 (xs.getD (1 : Nat) (0 : Int)) (48 : Int) = (0 : Int))) (by omega)]; decide)) (fun _ => ?_)
      refine Xg.ops_op (by kernel_rfl) (Xg.opx_pure ((Value.slice sa (19 : Nat) sc)) rfl (fun _ => by kernel_rfl) ?_)
      refine Xg.ops_op (by kernel_rfl) (Xg.opx_rd 1 (.pointer (some (Addr.mk (Xg.blk sa) (offA sa + (3 : Nat)) none))) rfl hr (by kernel_rfl) (Xg.run_ix_rd (elem := 5) (kd := .i64) (e := ((3 : Int))) 1 ((3 : Nat)) (offA sa + (3 : Nat)) (by kernel_rfl) (by kernel_rfl) (by kernel_rfl) (by kernel_rfl) rfl (by omega) (by simp only [List.length_map]; omega) (by omega)) ?_)
      refine Xg.ops_op (by kernel_rfl) (Xg.opx_rd 1 (Value.int IntKind.u8 (xs.getD (3 : Nat) (0 : Int))) rfl hr (by kernel_rfl) (Xg.run_load_rd (off0 := (offA sa + (3 : Nat))) ((3 : Nat)) (by kernel_rfl) (by omega) (Xg.get_ints (by omega)) (by kernel_rfl)) ?_)
      refine Xg.ops_op (by kernel_rfl) (Xg.opx_pure (.int .u8 (Xg.bclr .u8 ((xs.getD (3 : Nat) (0 : Int))) (((129 : Int))))) rfl (fun _ => by kernel_rfl) ?_)
      refine Xg.ops_op (by kernel_rfl) (Xg.opx_pure (.bool (!decide (((bclr IntKind.u8 (xs.getD (3 : Nat) (0 : Int)) (129 : Int)) : Int) = ((0 : Int))))) rfl (fun _ => by kernel_rfl) ?_)
      refine Xg.ops_op (by kernel_rfl) (Xg.opx_pure ((Value.bool !decide (bclr IntKind.u8 (xs.getD (3 : Nat) (0 : Int)) (129 : Int) = (0 : Int)))) rfl (fun _ => by kernel_rfl) ?_)
      refine Xg.ops_op (by kernel_rfl) (Xg.opx_pure ((Value.bool !decide (bclr IntKind.u8 (xs.getD (3 : Nat) (0 : Int)) (129 : Int) = (0 : Int)))) rfl (fun _ => by kernel_rfl) ?_)
      refine Xg.ops_flag (j := 23) (c := (!decide (bclr IntKind.u8 (xs.getD (3 : Nat) (0 : Int)) (129 : Int) = (0 : Int)))) (by kernel_rfl) (fun xh1 => absurd xh1 (by rw [decide_eq_true (p := (bclr IntKind.u8 (xs.getD (3 : Nat) (0 : Int)) (129 : Int) = (0 : Int))) (by omega)]; decide)) (fun _ => ?_)
      refine Xg.ops_op (by kernel_rfl) (Xg.opx_pure ((Value.slice sa (19 : Nat) sc)) rfl (fun _ => by kernel_rfl) ?_)
      refine Xg.ops_op (by kernel_rfl) (Xg.opx_rd 1 (.pointer (some (Addr.mk (Xg.blk sa) (offA sa + (8 : Nat)) none))) rfl hr (by kernel_rfl) (Xg.run_ix_rd (elem := 5) (kd := .i64) (e := ((8 : Int))) 1 ((8 : Nat)) (offA sa + (8 : Nat)) (by kernel_rfl) (by kernel_rfl) (by kernel_rfl) (by kernel_rfl) rfl (by omega) (by simp only [List.length_map]; omega) (by omega)) ?_)
      refine Xg.ops_op (by kernel_rfl) (Xg.opx_rd 1 (Value.int IntKind.u8 (xs.getD (8 : Nat) (0 : Int))) rfl hr (by kernel_rfl) (Xg.run_load_rd (off0 := (offA sa + (8 : Nat))) ((8 : Nat)) (by kernel_rfl) (by omega) (Xg.get_ints (by omega)) (by kernel_rfl)) ?_)
      refine Xg.ops_op (by kernel_rfl) (Xg.opx_pure (.int .u8 (Xg.bclr .u8 ((xs.getD (8 : Nat) (0 : Int))) (((7 : Int))))) rfl (fun _ => by kernel_rfl) ?_)
      refine Xg.ops_op (by kernel_rfl) (Xg.opx_pure (.bool (!decide (((bclr IntKind.u8 (xs.getD (8 : Nat) (0 : Int)) (7 : Int)) : Int) = ((0 : Int))))) rfl (fun _ => by kernel_rfl) ?_)
      refine Xg.ops_op (by kernel_rfl) (Xg.opx_pure ((Value.bool !decide (bclr IntKind.u8 (xs.getD (8 : Nat) (0 : Int)) (7 : Int) = (0 : Int)))) rfl (fun _ => by kernel_rfl) ?_)
      refine Xg.ops_op (by kernel_rfl) (Xg.opx_pure ((Value.bool !decide (bclr IntKind.u8 (xs.getD (8 : Nat) (0 : Int)) (7 : Int) = (0 : Int)))) rfl (fun _ => by kernel_rfl) ?_)
      refine Xg.ops_flag (j := 30) (c := (!decide (bclr IntKind.u8 (xs.getD (8 : Nat) (0 : Int)) (7 : Int) = (0 : Int)))) (by kernel_rfl) (fun xh1 => absurd xh1 (by rw [decide_eq_true (p := (bclr IntKind.u8 (xs.getD (8 : Nat) (0 : Int)) (7 : Int) = (0 : Int))) (by omega)]; decide)) (fun _ => ?_)
      refine Xg.ops_op (by kernel_rfl) (Xg.opx_pure ((Value.slice sa (19 : Nat) sc)) rfl (fun _ => by kernel_rfl) ?_)
      refine Xg.ops_op (by kernel_rfl) (Xg.opx_rd 1 (.pointer (some (Addr.mk (Xg.blk sa) (offA sa + (9 : Nat)) none))) rfl hr (by kernel_rfl) (Xg.run_ix_rd (elem := 5) (kd := .i64) (e := ((9 : Int))) 1 ((9 : Nat)) (offA sa + (9 : Nat)) (by kernel_rfl) (by kernel_rfl) (by kernel_rfl) (by kernel_rfl) rfl (by omega) (by simp only [List.length_map]; omega) (by omega)) ?_)
      refine Xg.ops_op (by kernel_rfl) (Xg.opx_rd 1 (Value.int IntKind.u8 (xs.getD (9 : Nat) (0 : Int))) rfl hr (by kernel_rfl) (Xg.run_load_rd (off0 := (offA sa + (9 : Nat))) ((9 : Nat)) (by kernel_rfl) (by omega) (Xg.get_ints (by omega)) (by kernel_rfl)) ?_)
      refine Xg.ops_op (by kernel_rfl) (Xg.opx_pure (.int .u8 (Xg.bclr .u8 ((xs.getD (9 : Nat) (0 : Int))) (((31 : Int))))) rfl (fun _ => by kernel_rfl) ?_)
      refine Xg.ops_op (by kernel_rfl) (Xg.opx_pure (.bool (!decide (((bclr IntKind.u8 (xs.getD (9 : Nat) (0 : Int)) (31 : Int)) : Int) = ((0 : Int))))) rfl (fun _ => by kernel_rfl) ?_)
      refine Xg.ops_op (by kernel_rfl) (Xg.opx_pure ((Value.bool !decide (bclr IntKind.u8 (xs.getD (9 : Nat) (0 : Int)) (31 : Int) = (0 : Int)))) rfl (fun _ => by kernel_rfl) ?_)
      refine Xg.ops_op (by kernel_rfl) (Xg.opx_pure ((Value.bool !decide (bclr IntKind.u8 (xs.getD (9 : Nat) (0 : Int)) (31 : Int) = (0 : Int)))) rfl (fun _ => by kernel_rfl) ?_)
      refine Xg.ops_flag (j := 37) (c := (!decide (bclr IntKind.u8 (xs.getD (9 : Nat) (0 : Int)) (31 : Int) = (0 : Int)))) (by kernel_rfl) (fun xh1 => absurd xh1 (by rw [decide_eq_true (p := (bclr IntKind.u8 (xs.getD (9 : Nat) (0 : Int)) (31 : Int) = (0 : Int))) (by omega)]; decide)) (fun _ => ?_)
      refine Xg.ops_op (by kernel_rfl) (Xg.opx_pure ((Value.slice sa (19 : Nat) sc)) rfl (fun _ => by kernel_rfl) ?_)
      refine Xg.ops_op (by kernel_rfl) (Xg.opx_rd 1 (.pointer (some (Addr.mk (Xg.blk sa) (offA sa + (10 : Nat)) none))) rfl hr (by kernel_rfl) (Xg.run_ix_rd (elem := 5) (kd := .i64) (e := ((10 : Int))) 1 ((10 : Nat)) (offA sa + (10 : Nat)) (by kernel_rfl) (by kernel_rfl) (by kernel_rfl) (by kernel_rfl) rfl (by omega) (by simp only [List.length_map]; omega) (by omega)) ?_)
      refine Xg.ops_op (by kernel_rfl) (Xg.opx_rd 1 (Value.int IntKind.u8 (xs.getD (10 : Nat) (0 : Int))) rfl hr (by kernel_rfl) (Xg.run_load_rd (off0 := (offA sa + (10 : Nat))) ((10 : Nat)) (by kernel_rfl) (by omega) (Xg.get_ints (by omega)) (by kernel_rfl)) ?_)
      refine Xg.ops_op (by kernel_rfl) (Xg.opx_pure (.bool (decide (((xs.getD (10 : Nat) (0 : Int)) : Int) > ((4 : Int))))) rfl (fun _ => by kernel_rfl) ?_)
      refine Xg.ops_op (by kernel_rfl) (Xg.opx_pure ((Value.bool (decide (xs.getD (10 : Nat) (0 : Int) > (4 : Int))))) rfl (fun _ => by kernel_rfl) ?_)
      refine Xg.ops_nil ?_
      refine Xg.at_false (t := decide ((xs.getD (10 : Nat) (0 : Int) > (4 : Int)))) (by kernel_rfl) (decide_eq_false (by omega)) ?_
      refine Xg.at_skip ?_
      refine Xg.at_seq ?_
      refine Xg.at_draw [] [(0, [0, 4, 5, 6, 7, 8], (RdIs (1 : Nat) (Value.slice sa (19 : Nat) sc) (19 : Nat) (List.map (Value.int IntKind.u8) xs))), (1, [0, 1, 4, 5, 6, 7, 8], (RdIs (1 : Nat) (Value.slice sa (19 : Nat) sc) (19 : Nat) (List.map (Value.int IntKind.u8) xs))), (2, [0, 1, 2, 4, 5, 6, 7, 8], (RdIs (1 : Nat) (Value.slice sa (19 : Nat) sc) (19 : Nat) (List.map (Value.int IntKind.u8) xs))), (5, [0, 1, 2, 3, 4, 5], (RdIs (1 : Nat) (Value.slice sa (19 : Nat) sc) (19 : Nat) (List.map (Value.int IntKind.u8) xs))), (6, [0, 1, 2, 3, 4, 5, 6], (RdIs (1 : Nat) (Value.slice sa (19 : Nat) sc) (19 : Nat) (List.map (Value.int IntKind.u8) xs)))] (by kernel_rfl) ?_
      refine Xg.any_pure ((Value.slice sa (19 : Nat) sc)) 0 (by kernel_rfl) rfl (by kernel_rfl) (by kernel_rfl) (by kernel_rfl) (by kernel_rfl) rfl (fun _ => by kernel_rfl) ?_
      refine Xg.any_reads (.pointer (some (Addr.mk (Xg.blk sa) (offA sa + (11 : Nat)) none))) 1 1 (by kernel_rfl) rfl (by kernel_rfl) (by kernel_rfl) (by kernel_rfl) (by kernel_rfl) rfl rfl (by kernel_rfl) (Xg.rd_now 1 hr (by kernel_rfl)) (Xg.run_ix_rd (elem := 5) (kd := .i64) (e := ((11 : Int))) 1 ((11 : Nat)) (offA sa + (11 : Nat)) (by kernel_rfl) (by kernel_rfl) (by kernel_rfl) (by kernel_rfl) rfl (by omega) (by simp only [List.length_map]; omega) (by omega)) ?_
      refine Xg.any_reads (Value.int IntKind.u8 (xs.getD (11 : Nat) (0 : Int))) 2 2 (by kernel_rfl) rfl (by kernel_rfl) (by kernel_rfl) (by kernel_rfl) (by kernel_rfl) rfl rfl (by kernel_rfl) (Xg.rd_now 1 hr (by kernel_rfl)) (Xg.run_load_rd (off0 := (offA sa + (11 : Nat))) ((11 : Nat)) (by kernel_rfl) (by omega) (Xg.get_ints (by omega)) (by kernel_rfl)) ?_
      refine Xg.any_int .i64 (IntKind.wrap .i64 ((xs.getD (11 : Nat) (0 : Int)))) 3 (by kernel_rfl) rfl (by kernel_rfl) (by kernel_rfl) (by kernel_rfl) (by kernel_rfl) rfl (fun _ => by kernel_rfl) (Xg.wrap_i64_in (by omega)) ?_
      refine Xg.any_pure ((Value.slice sa (19 : Nat) sc)) 4 (by kernel_rfl) rfl (by kernel_rfl) (by kernel_rfl) (by kernel_rfl) (by kernel_rfl) rfl (fun _ => by kernel_rfl) ?_
      refine Xg.any_reads (.pointer (some (Addr.mk (Xg.blk sa) (offA sa + (12 : Nat)) none))) 5 3 (by kernel_rfl) rfl (by kernel_rfl) (by kernel_rfl) (by kernel_rfl) (by kernel_rfl) rfl rfl (by kernel_rfl) (Xg.rd_now 1 hr (by kernel_rfl)) (Xg.run_ix_rd (elem := 5) (kd := .i64) (e := ((12 : Int))) 1 ((12 : Nat)) (offA sa + (12 : Nat)) (by kernel_rfl) (by kernel_rfl) (by kernel_rfl) (by kernel_rfl) rfl (by omega) (by simp only [List.length_map]; omega) (by omega)) ?_
      refine Xg.any_reads (Value.int IntKind.u8 (xs.getD (12 : Nat) (0 : Int))) 6 4 (by kernel_rfl) rfl (by kernel_rfl) (by kernel_rfl) (by kernel_rfl) (by kernel_rfl) rfl rfl (by kernel_rfl) (Xg.rd_now 1 hr (by kernel_rfl)) (Xg.run_load_rd (off0 := (offA sa + (12 : Nat))) ((12 : Nat)) (by kernel_rfl) (by omega) (Xg.get_ints (by omega)) (by kernel_rfl)) ?_
      refine Xg.any_int .i64 (IntKind.wrap .i64 ((xs.getD (12 : Nat) (0 : Int)))) 7 (by kernel_rfl) rfl (by kernel_rfl) (by kernel_rfl) (by kernel_rfl) (by kernel_rfl) rfl (fun _ => by kernel_rfl) (Xg.wrap_i64_in (by omega)) ?_
      refine Xg.any_int .i64 (IntKind.wrap .i64 ((xs.getD (12 : Nat) (0 : Int) * (256 : Int)))) 8 (by kernel_rfl) rfl (by kernel_rfl) (by kernel_rfl) (by kernel_rfl) (by kernel_rfl) rfl (fun _ => by kernel_rfl) (Xg.wrap_i64_in (by omega)) ?_
      refine Xg.any_pure (.int .i64 (Xg.bor .i64 ((xs.getD (11 : Nat) (0 : Int))) ((xs.getD (12 : Nat) (0 : Int) * (256 : Int))))) 9 (by kernel_rfl) rfl (by kernel_rfl) (by kernel_rfl) (by kernel_rfl) (by kernel_rfl) rfl (fun _ => by kernel_rfl) ?_
      refine Xg.any_pure ((Value.int IntKind.i64 (bor IntKind.i64 (xs.getD (11 : Nat) (0 : Int)) (xs.getD (12 : Nat) (0 : Int) * (256 : Int))))) 10 (by kernel_rfl) rfl (by kernel_rfl) (by kernel_rfl) (by kernel_rfl) (by kernel_rfl) rfl (fun _ => by kernel_rfl) ?_
      refine Xg.any_nil (by kernel_rfl) ?_
      refine Xg.at_seq ?_
      refine Xg.at_seq ?_
      refine Xg.at_region ?_
      refine Xg.ops_op (by kernel_rfl) (Xg.opx_pure ((Value.int IntKind.i64 (bor IntKind.i64 (xs.getD (11 : Nat) (0 : Int)) (xs.getD (12 : Nat) (0 : Int) * (256 : Int))))) rfl (fun _ => by kernel_rfl) ?_)
      refine Xg.ops_op (by kernel_rfl) (Xg.opx_pure (.bool (decide (((bor IntKind.i64 (xs.getD (11 : Nat) (0 : Int)) (xs.getD (12 : Nat) (0 : Int) * (256 : Int))) : Int) > ((4096 : Int))))) rfl (fun _ => by kernel_rfl) ?_)
      refine Xg.ops_op (by kernel_rfl) (Xg.opx_pure ((Value.bool (decide (bor IntKind.i64 (xs.getD (11 : Nat) (0 : Int)) (xs.getD (12 : Nat) (0 : Int) * (256 : Int)) > (4096 : Int))))) rfl (fun _ => by kernel_rfl) ?_)
      refine Xg.ops_flag (j := 55) (c := (decide (bor IntKind.i64 (xs.getD (11 : Nat) (0 : Int)) (xs.getD (12 : Nat) (0 : Int) * (256 : Int)) > (4096 : Int)))) (by kernel_rfl) (fun xh1 => absurd (of_decide_eq_true xh1) (by omega)) (fun _ => ?_)
      refine Xg.ops_op (by kernel_rfl) (Xg.opx_pure ((Value.int IntKind.i64 (bor IntKind.i64 (xs.getD (11 : Nat) (0 : Int)) (xs.getD (12 : Nat) (0 : Int) * (256 : Int))))) rfl (fun _ => by kernel_rfl) ?_)
      refine Xg.ops_op (by kernel_rfl) (Xg.opx_pure (.bool (decide (((bor IntKind.i64 (xs.getD (11 : Nat) (0 : Int)) (xs.getD (12 : Nat) (0 : Int) * (256 : Int))) : Int) > ((0 : Int))))) rfl (fun _ => by kernel_rfl) ?_)
      refine Xg.ops_op (by kernel_rfl) (Xg.opx_pure ((Value.slice sa (19 : Nat) sc)) rfl (fun _ => by kernel_rfl) ?_)
      refine Xg.ops_op (by kernel_rfl) (Xg.opx_rd 1 (.pointer (some (Addr.mk (Xg.blk sa) (offA sa + (3 : Nat)) none))) rfl hr (by kernel_rfl) (Xg.run_ix_rd (elem := 5) (kd := .i64) (e := ((3 : Int))) 1 ((3 : Nat)) (offA sa + (3 : Nat)) (by kernel_rfl) (by kernel_rfl) (by kernel_rfl) (by kernel_rfl) rfl (by omega) (by simp only [List.length_map]; omega) (by omega)) ?_)
      refine Xg.ops_op (by kernel_rfl) (Xg.opx_rd 1 (Value.int IntKind.u8 (xs.getD (3 : Nat) (0 : Int))) rfl hr (by kernel_rfl) (Xg.run_load_rd (off0 := (offA sa + (3 : Nat))) ((3 : Nat)) (by kernel_rfl) (by omega) (Xg.get_ints (by omega)) (by kernel_rfl)) ?_)
      refine Xg.ops_op (by kernel_rfl) (Xg.opx_pure (.bool (decide (((xs.getD (3 : Nat) (0 : Int)) : Int) = ((129 : Int))))) rfl (fun _ => by kernel_rfl) ?_)
      refine Xg.ops_flag (j := 61) (c := (decide (xs.getD (3 : Nat) (0 : Int) = (129 : Int)))) (by kernel_rfl) (fun _ => ?_) (fun xh1 => absurd (of_decide_eq_false xh1) (by omega))
      refine Xg.ops_op (by kernel_rfl) (Xg.opx_eq (v := ((Value.bool !decide (bor IntKind.i64 (xs.getD (11 : Nat) (0 : Int)) (xs.getD (12 : Nat) (0 : Int) * (256 : Int)) > (0 : Int)) == true))) (.bool (!(decide (bor IntKind.i64 (xs.getD (11 : Nat) (0 : Int)) (xs.getD (12 : Nat) (0 : Int) * (256 : Int)) > (0 : Int))))) rfl (fun _ => by kernel_rfl) (by generalize ((decide (bor IntKind.i64 (xs.getD (11 : Nat) (0 : Int)) (xs.getD (12 : Nat) (0 : Int) * (256 : Int)) > (0 : Int))) : Bool) = bb; cases bb <;> rfl) ?_)
      refine Xg.ops_op (by kernel_rfl) (Xg.opx_pure ((Value.bool !decide (bor IntKind.i64 (xs.getD (11 : Nat) (0 : Int)) (xs.getD (12 : Nat) (0 : Int) * (256 : Int)) > (0 : Int)))) rfl (fun _ => by kernel_rfl) ?_)
      refine Xg.ops_op (by kernel_rfl) (Xg.opx_pure ((Value.bool !decide (bor IntKind.i64 (xs.getD (11 : Nat) (0 : Int)) (xs.getD (12 : Nat) (0 : Int) * (256 : Int)) > (0 : Int)))) rfl (fun _ => by kernel_rfl) ?_)
      refine Xg.ops_flag (j := 64) (c := (!decide (bor IntKind.i64 (xs.getD (11 : Nat) (0 : Int)) (xs.getD (12 : Nat) (0 : Int) * (256 : Int)) > (0 : Int)))) (by kernel_rfl) (fun xh1 => absurd xh1 (by rw [decide_eq_true (p := (bor IntKind.i64 (xs.getD (11 : Nat) (0 : Int)) (xs.getD (12 : Nat) (0 : Int) * (256 : Int)) > (0 : Int))) (by omega)]; decide)) (fun _ => ?_)
      refine Xg.ops_op (by kernel_rfl) (Xg.opx_pure ((Value.int IntKind.i64 (bor IntKind.i64 (xs.getD (11 : Nat) (0 : Int)) (xs.getD (12 : Nat) (0 : Int) * (256 : Int))))) rfl (fun _ => by kernel_rfl) ?_)
      refine Xg.ops_op (by kernel_rfl) (Xg.opx_pure (.bool (decide (((bor IntKind.i64 (xs.getD (11 : Nat) (0 : Int)) (xs.getD (12 : Nat) (0 : Int) * (256 : Int))) : Int) = ((0 : Int))))) rfl (fun _ => by kernel_rfl) ?_)
      refine Xg.ops_op (by kernel_rfl) (Xg.opx_pure ((Value.bool (decide (bor IntKind.i64 (xs.getD (11 : Nat) (0 : Int)) (xs.getD (12 : Nat) (0 : Int) * (256 : Int)) = (0 : Int))))) rfl (fun _ => by kernel_rfl) ?_)
      refine Xg.ops_flag (j := 67) (c := (decide (bor IntKind.i64 (xs.getD (11 : Nat) (0 : Int)) (xs.getD (12 : Nat) (0 : Int) * (256 : Int)) = (0 : Int)))) (by kernel_rfl) (fun xh1 => absurd (of_decide_eq_true xh1) (by omega)) (fun _ => ?_)
      refine Xg.ops_skip (by kernel_rfl) ?_
      refine Xg.ops_skip (by kernel_rfl) ?_
      refine Xg.ops_skip (by kernel_rfl) ?_
      refine Xg.ops_skip (by kernel_rfl) ?_
      refine Xg.ops_op (by kernel_rfl) (Xg.opx_pure ((Value.bool false)) rfl (fun _ => by kernel_rfl) ?_)
      refine Xg.ops_op (by kernel_rfl) (Xg.opx_pure ((Value.bool false)) rfl (fun _ => by kernel_rfl) ?_)
      refine Xg.ops_op (by kernel_rfl) (Xg.opx_pure ((Value.bool false)) rfl (fun _ => by kernel_rfl) ?_)
      refine Xg.ops_op (by kernel_rfl) (Xg.opx_pure ((Value.slice sa (19 : Nat) sc)) rfl (fun _ => by kernel_rfl) ?_)
      refine Xg.ops_op (by kernel_rfl) (Xg.opx_run (.slice (Xg.subA sa sc ((14 : Nat)) 1) (((19 : Nat)) - ((14 : Nat))) (sc - ((14 : Nat)))) rfl (Xg.run_sl_lo (elem := 5) (a := sa) (c := sc) (len := ((19 : Nat))) (k1 := .i64) (e1 := ((14 : Int))) 1 ((14 : Nat)) (by kernel_rfl) (by kernel_rfl) (by kernel_rfl) (by kernel_rfl) rfl (by omega)) ?_)
      refine Xg.ops_op (by kernel_rfl) (Xg.opx_call1' [1] [A, PoR p σ s] (fun _ => by kernel_rfl) (@hct ) (by kernel_rfl) (by kernel_rfl) (by kernel_rfl) ?_)
      refine Xg.ops_op (by kernel_rfl) (Xg.opx_pure ((Value.bool false)) rfl (fun _ => by kernel_rfl) ?_)
      refine Xg.ops_nil ?_
      refine Xg.at_false (t := false) (by kernel_rfl) rfl ?_
      refine Xg.at_skip ?_
      refine Xg.at_seq ?_
      refine Xg.at_draw [45] [(2, [0, 1, 2, 4, 5, 6, 7, 8, 9, 10, 11, 12, 13, 14, 15, 16, 17, 18, 19, 20, 21, 22, 23, 24, 25, 26, 27, 28, 29, 30, 31, 32, 33, 34, 35, 36, 37, 38, 39, 40, 41, 42], (RdIs (1 : Nat) (Value.slice sa (19 : Nat) sc) (19 : Nat) (List.map (Value.int IntKind.u8) xs))), (3, [0, 1, 2, 3, 4, 5, 6, 7, 8, 9, 10, 11, 12, 13, 14, 15, 16, 17, 18, 19, 20, 21, 22, 23, 24, 25, 26, 27, 28, 29, 30, 31, 32, 33, 34, 35, 36, 37, 38, 39, 40, 41, 42], (RdIs (1 : Nat) (Value.slice sa (19 : Nat) sc) (19 : Nat) (List.map (Value.int IntKind.u8) xs))), (5, [0, 1, 2, 3, 4, 5, 7, 8, 9, 10, 11, 12, 13, 14, 15, 16, 17, 18, 19, 20, 21, 22, 23, 24, 25, 26, 27, 28, 29, 30, 31, 32, 33, 34, 35, 36, 37, 38, 39, 40, 41, 42], (RdIs (1 : Nat) (Value.slice sa (19 : Nat) sc) (19 : Nat) (List.map (Value.int IntKind.u8) xs))), (6, [0, 1, 2, 3, 4, 5, 6, 7, 8, 9, 10, 11, 12, 13, 14, 15, 16, 17, 18, 19, 20, 21, 22, 23, 24, 25, 26, 27, 28, 29, 30, 31, 32, 33, 34, 35, 36, 37, 38, 39, 40, 41, 42], (RdIs (1 : Nat) (Value.slice sa (19 : Nat) sc) (19 : Nat) (List.map (Value.int IntKind.u8) xs))), (8, [0, 1, 2, 3, 4, 5, 6, 7, 8, 10, 11, 12, 13, 14, 15, 16, 17, 18, 19, 20, 21, 22, 23, 24, 25, 26, 27, 28, 29, 30, 31, 32, 33, 34, 35, 36, 37, 38, 39, 40, 41, 42], (RdIs (1 : Nat) (Value.slice sa (19 : Nat) sc) (19 : Nat) (List.map (Value.int IntKind.u8) xs))), (9, [0, 1, 2, 3, 4, 5, 6, 7, 8, 9, 10, 11, 12, 13, 14, 15, 16, 17, 18, 19, 20, 21, 22, 23, 24, 25, 26, 27, 28, 29, 30, 31, 32, 33, 34, 35, 36, 37, 38, 39, 40, 41, 42], (RdIs (1 : Nat) (Value.slice sa (19 : Nat) sc) (19 : Nat) (List.map (Value.int IntKind.u8) xs))), (10, [0, 1, 2, 3, 4, 5, 6, 7, 8, 9, 10, 13, 14, 15, 16, 17, 18, 19, 20, 21, 22, 23, 24, 25, 26, 27, 28, 29, 30, 31, 32, 33, 34, 35, 36, 37, 38, 39, 40, 41, 42], (RdIs (1 : Nat) (Value.slice sa (19 : Nat) sc) (19 : Nat) (List.map (Value.int IntKind.u8) xs))), (11, [0, 1, 2, 3, 4, 5, 6, 7, 8, 9, 10, 11, 13, 14, 15, 16, 17, 18, 19, 20, 21, 22, 23, 24, 25, 26, 27, 28, 29, 30, 31, 32, 33, 34, 35, 36, 37, 38, 39, 40, 41, 42], (RdIs (1 : Nat) (Value.slice sa (19 : Nat) sc) (19 : Nat) (List.map (Value.int IntKind.u8) xs))), (12, [0, 1, 2, 3, 4, 5, 6, 7, 8, 9, 10, 11, 12, 13, 14, 15, 16, 17, 18, 19, 20, 21, 22, 23, 24, 25, 26, 27, 28, 29, 30, 31, 32, 33, 34, 35, 36, 37, 38, 39, 40, 41, 42], (RdIs (1 : Nat) (Value.slice sa (19 : Nat) sc) (19 : Nat) (List.map (Value.int IntKind.u8) xs))), (14, [0, 1, 2, 3, 4, 5, 6, 7, 8, 9, 10, 11, 12, 13, 14, 17, 18, 19, 20, 21, 23, 24, 25, 26, 27, 28, 29, 30, 31, 32, 33, 34, 35, 36, 37, 38, 39, 40, 41, 42], (RdIs (1 : Nat) (Value.slice sa (19 : Nat) sc) (19 : Nat) (List.map (Value.int IntKind.u8) xs))), (15, [0, 1, 2, 3, 4, 5, 6, 7, 8, 9, 10, 11, 12, 13, 14, 15, 17, 18, 19, 20, 21, 23, 24, 25, 26, 27, 28, 29, 30, 31, 32, 33, 34, 35, 36, 37, 38, 39, 40, 41, 42], (RdIs (1 : Nat) (Value.slice sa (19 : Nat) sc) (19 : Nat) (List.map (Value.int IntKind.u8) xs))), (18, [0, 1, 2, 3, 4, 5, 6, 7, 8, 9, 10, 11, 12, 13, 14, 15, 16, 17, 18, 23, 24, 25, 26, 27, 28, 29, 30, 31, 32, 33, 34, 35, 36, 37, 38, 39, 40, 41, 42], (RdIs (1 : Nat) (Value.slice sa (19 : Nat) sc) (19 : Nat) (List.map (Value.int IntKind.u8) xs))), (19, [0, 1, 2, 3, 4, 5, 6, 7, 8, 9, 10, 11, 12, 13, 14, 15, 16, 17, 18, 19, 23, 24, 25, 26, 27, 28, 29, 30, 31, 32, 33, 34, 35, 36, 37, 38, 39, 40, 41, 42], (RdIs (1 : Nat) (Value.slice sa (19 : Nat) sc) (19 : Nat) (List.map (Value.int IntKind.u8) xs))), (24, [0, 1, 2, 3, 4, 5, 6, 7, 8, 9, 10, 11, 12, 13, 14, 15, 16, 17, 18, 19, 20, 21, 22, 23, 24, 26, 27, 28, 29, 30, 31, 32, 33, 34, 35, 36, 37, 38, 39, 40, 41, 42], (RdIs (1 : Nat) (Value.slice sa (19 : Nat) sc) (19 : Nat) (List.map (Value.int IntKind.u8) xs))), (25, [0, 1, 2, 3, 4, 5, 6, 7, 8, 9, 10, 11, 12, 13, 14, 15, 16, 17, 18, 19, 20, 21, 22, 23, 24, 25, 26, 27, 28, 29, 30, 31, 32, 33, 34, 35, 36, 37, 38, 39, 40, 41, 42], (RdIs (1 : Nat) (Value.slice sa (19 : Nat) sc) (19 : Nat) (List.map (Value.int IntKind.u8) xs))), (27, [0, 1, 2, 3, 4, 5, 6, 7, 8, 9, 10, 11, 12, 13, 14, 15, 16, 17, 18, 19, 20, 21, 22, 23, 24, 25, 26, 27, 29, 30, 31, 32, 33, 34, 35, 36, 37, 38, 39, 40, 41, 42], (RdIs (1 : Nat) (Value.slice sa (19 : Nat) sc) (19 : Nat) (List.map (Value.int IntKind.u8) xs))), (28, [0, 1, 2, 3, 4, 5, 6, 7, 8, 9, 10, 11, 12, 13, 14, 15, 16, 17, 18, 19, 20, 21, 22, 23, 24, 25, 26, 27, 28, 29, 30, 31, 32, 33, 34, 35, 36, 37, 38, 39, 40, 41, 42], (RdIs (1 : Nat) (Value.slice sa (19 : Nat) sc) (19 : Nat) (List.map (Value.int IntKind.u8) xs))), (30, [0, 1, 2, 3, 4, 5, 6, 7, 8, 9, 10, 11, 12, 13, 14, 15, 16, 17, 18, 19, 20, 21, 22, 23, 24, 25, 26, 27, 28, 29, 30, 32, 33, 34, 35, 36, 37, 38, 39, 40, 41, 42], (RdIs (1 : Nat) (Value.slice sa (19 : Nat) sc) (19 : Nat) (List.map (Value.int IntKind.u8) xs))), (31, [0, 1, 2, 3, 4, 5, 6, 7, 8, 9, 10, 11, 12, 13, 14, 15, 16, 17, 18, 19, 20, 21, 22, 23, 24, 25, 26, 27, 28, 29, 30, 31, 32, 33, 34, 35, 36, 37, 38, 39, 40, 41, 42], (RdIs (1 : Nat) (Value.slice sa (19 : Nat) sc) (19 : Nat) (List.map (Value.int IntKind.u8) xs))), (33, [0, 1, 2, 3, 4, 5, 6, 7, 8, 9, 10, 11, 12, 13, 14, 15, 16, 17, 18, 19, 20, 21, 22, 23, 24, 25, 26, 27, 28, 29, 30, 31, 32, 33, 35, 36, 37, 38, 39, 40, 41, 42], (RdIs (1 : Nat) (Value.slice sa (19 : Nat) sc) (19 : Nat) (List.map (Value.int IntKind.u8) xs))), (34, [0, 1, 2, 3, 4, 5, 6, 7, 8, 9, 10, 11, 12, 13, 14, 15, 16, 17, 18, 19, 20, 21, 22, 23, 24, 25, 26, 27, 28, 29, 30, 31, 32, 33, 34, 35, 36, 37, 38, 39, 40, 41, 42], (RdIs (1 : Nat) (Value.slice sa (19 : Nat) sc) (19 : Nat) (List.map (Value.int IntKind.u8) xs))), (36, [0, 1, 2, 3, 4, 5, 6, 7, 8, 9, 10, 11, 12, 13, 14, 15, 16, 17, 18, 19, 20, 21, 22, 23, 24, 25, 26, 27, 28, 29, 30, 31, 32, 33, 34, 35, 36, 39, 40, 41, 42], (RdIs (1 : Nat) (Value.slice sa (19 : Nat) sc) (19 : Nat) (List.map (Value.int IntKind.u8) xs))), (37, [0, 1, 2, 3, 4, 5, 6, 7, 8, 9, 10, 11, 12, 13, 14, 15, 16, 17, 18, 19, 20, 21, 22, 23, 24, 25, 26, 27, 28, 29, 30, 31, 32, 33, 34, 35, 36, 37, 39, 40, 41, 42], (RdIs (1 : Nat) (Value.slice sa (19 : Nat) sc) (19 : Nat) (List.map (Value.int IntKind.u8) xs))), (41, [0, 1, 2, 3, 4, 5, 6, 7, 8, 9, 10, 11, 12, 13, 14, 15, 16, 17, 18, 19, 20, 21, 22, 23, 24, 25, 26, 27, 28, 29, 30, 31, 32, 33, 34, 35, 36, 37, 38, 39, 40, 41], (RdIs (1 : Nat) (Value.slice sa (19 : Nat) sc) (19 : Nat) (List.map (Value.int IntKind.u8) xs))), (42, [0, 1, 2, 3, 4, 5, 6, 7, 8, 9, 10, 11, 12, 13, 14, 15, 16, 17, 18, 19, 20, 21, 22, 23, 24, 25, 26, 27, 28, 29, 30, 31, 32, 33, 34, 35, 36, 37, 38, 39, 40, 41, 42], (RdIs (1 : Nat) (Value.slice sa (19 : Nat) sc) (19 : Nat) (List.map (Value.int IntKind.u8) xs)))] (by kernel_rfl) ?_
      refine Xg.any_pure ((Value.pointer (some (Addr.mk p (0 : Nat) none)))) 0 (by kernel_rfl) rfl (by kernel_rfl) (by kernel_rfl) (by kernel_rfl) (by kernel_rfl) rfl (fun _ => by kernel_rfl) ?_
      refine Xg.any_pure ((Value.slice sa (19 : Nat) sc)) 1 (by kernel_rfl) rfl (by kernel_rfl) (by kernel_rfl) (by kernel_rfl) (by kernel_rfl) rfl (fun _ => by kernel_rfl) ?_
      refine Xg.any_reads (.pointer (some (Addr.mk (Xg.blk sa) (offA sa + (0 : Nat)) none))) 2 0 (by kernel_rfl) rfl (by kernel_rfl) (by kernel_rfl) (by kernel_rfl) (by kernel_rfl) rfl rfl (by kernel_rfl) (Xg.rd_now 0 hr (by kernel_rfl)) (Xg.run_ix_rd (elem := 5) (kd := .i64) (e := ((0 : Int))) 1 ((0 : Nat)) (offA sa + (0 : Nat)) (by kernel_rfl) (by kernel_rfl) (by kernel_rfl) (by kernel_rfl) rfl (by omega) (by simp only [List.length_map]; omega) (by omega)) ?_
      refine Xg.any_reads (Value.int IntKind.u8 (xs.getD (0 : Nat) (0 : Int))) 3 1 (by kernel_rfl) rfl (by kernel_rfl) (by kernel_rfl) (by kernel_rfl) (by kernel_rfl) rfl rfl (by kernel_rfl) (Xg.rd_now 0 hr (by kernel_rfl)) (Xg.run_load_rd (off0 := (offA sa)) ((0 : Nat)) (by kernel_rfl) (by omega) (Xg.get_ints (by omega)) (by kernel_rfl)) ?_
      refine Xg.any_pure ((Value.slice sa (19 : Nat) sc)) 4 (by kernel_rfl) rfl (by kernel_rfl) (by kernel_rfl) (by kernel_rfl) (by kernel_rfl) rfl (fun _ => by kernel_rfl) ?_
      refine Xg.any_reads (.pointer (some (Addr.mk (Xg.blk sa) (offA sa + (1 : Nat)) none))) 5 2 (by kernel_rfl) rfl (by kernel_rfl) (by kernel_rfl) (by kernel_rfl) (by kernel_rfl) rfl rfl (by kernel_rfl) (Xg.rd_now 0 hr (by kernel_rfl)) (Xg.run_ix_rd (elem := 5) (kd := .i64) (e := ((1 : Int))) 1 ((1 : Nat)) (offA sa + (1 : Nat)) (by kernel_rfl) (by kernel_rfl) (by kernel_rfl) (by kernel_rfl) rfl (by omega) (by simp only [List.length_map]; omega) (by omega)) ?_
      refine Xg.any_reads (Value.int IntKind.u8 (xs.getD (1 : Nat) (0 : Int))) 6 3 (by kernel_rfl) rfl (by kernel_rfl) (by kernel_rfl) (by kernel_rfl) (by kernel_rfl) rfl rfl (by kernel_rfl) (Xg.rd_now 0 hr (by kernel_rfl)) (Xg.run_load_rd (off0 := (offA sa + (1 : Nat))) ((1 : Nat)) (by kernel_rfl) (by omega) (Xg.get_ints (by omega)) (by kernel_rfl)) ?_
      refine Xg.any_pure ((Value.slice sa (19 : Nat) sc)) 7 (by kernel_rfl) rfl (by kernel_rfl) (by kernel_rfl) (by kernel_rfl) (by kernel_rfl) rfl (fun _ => by kernel_rfl) ?_
      refine Xg.any_reads (.pointer (some (Addr.mk (Xg.blk sa) (offA sa + (2 : Nat)) none))) 8 4 (by kernel_rfl) rfl (by kernel_rfl) (by kernel_rfl) (by kernel_rfl) (by kernel_rfl) rfl rfl (by kernel_rfl) (Xg.rd_now 0 hr (by kernel_rfl)) (Xg.run_ix_rd (elem := 5) (kd := .i64) (e := ((2 : Int))) 1 ((2 : Nat)) (offA sa + (2 : Nat)) (by kernel_rfl) (by kernel_rfl) (by kernel_rfl) (by kernel_rfl) rfl (by omega) (by simp only [List.length_map]; omega) (by omega)) ?_
      refine Xg.any_reads (Value.int IntKind.u8 (xs.getD (2 : Nat) (0 : Int))) 9 5 (by kernel_rfl) rfl (by kernel_rfl) (by kernel_rfl) (by kernel_rfl) (by kernel_rfl) rfl rfl (by kernel_rfl) (Xg.rd_now 0 hr (by kernel_rfl)) (Xg.run_load_rd (off0 := (offA sa + (2 : Nat))) ((2 : Nat)) (by kernel_rfl) (by omega) (Xg.get_ints (by omega)) (by kernel_rfl)) ?_
      refine Xg.any_pure ((Value.slice sa (19 : Nat) sc)) 10 (by kernel_rfl) rfl (by kernel_rfl) (by kernel_rfl) (by kernel_rfl) (by kernel_rfl) rfl (fun _ => by kernel_rfl) ?_
      refine Xg.any_reads (.pointer (some (Addr.mk (Xg.blk sa) (offA sa + (3 : Nat)) none))) 11 7 (by kernel_rfl) rfl (by kernel_rfl) (by kernel_rfl) (by kernel_rfl) (by kernel_rfl) rfl rfl (by kernel_rfl) (Xg.rd_now 0 hr (by kernel_rfl)) (Xg.run_ix_rd (elem := 5) (kd := .i64) (e := ((3 : Int))) 1 ((3 : Nat)) (offA sa + (3 : Nat)) (by kernel_rfl) (by kernel_rfl) (by kernel_rfl) (by kernel_rfl) rfl (by omega) (by simp only [List.length_map]; omega) (by omega)) ?_
      refine Xg.any_reads (Value.int IntKind.u8 (xs.getD (3 : Nat) (0 : Int))) 12 8 (by kernel_rfl) rfl (by kernel_rfl) (by kernel_rfl) (by kernel_rfl) (by kernel_rfl) rfl rfl (by kernel_rfl) (Xg.rd_now 0 hr (by kernel_rfl)) (Xg.run_load_rd (off0 := (offA sa + (3 : Nat))) ((3 : Nat)) (by kernel_rfl) (by omega) (Xg.get_ints (by omega)) (by kernel_rfl)) ?_
      refine Xg.any_pure ((Value.slice sa (19 : Nat) sc)) 13 (by kernel_rfl) rfl (by kernel_rfl) (by kernel_rfl) (by kernel_rfl) (by kernel_rfl) rfl (fun _ => by kernel_rfl) ?_
      refine Xg.any_reads (.pointer (some (Addr.mk (Xg.blk sa) (offA sa + (4 : Nat)) none))) 14 9 (by kernel_rfl) rfl (by kernel_rfl) (by kernel_rfl) (by kernel_rfl) (by kernel_rfl) rfl rfl (by kernel_rfl) (Xg.rd_now 0 hr (by kernel_rfl)) (Xg.run_ix_rd (elem := 5) (kd := .i64) (e := ((4 : Int))) 1 ((4 : Nat)) (offA sa + (4 : Nat)) (by kernel_rfl) (by kernel_rfl) (by kernel_rfl) (by kernel_rfl) rfl (by omega) (by simp only [List.length_map]; omega) (by omega)) ?_
      refine Xg.any_reads (Value.int IntKind.u8 (xs.getD (4 : Nat) (0 : Int))) 15 10 (by kernel_rfl) rfl (by kernel_rfl) (by kernel_rfl) (by kernel_rfl) (by kernel_rfl) rfl rfl (by kernel_rfl) (Xg.rd_now 0 hr (by kernel_rfl)) (Xg.run_load_rd (off0 := (offA sa + (4 : Nat))) ((4 : Nat)) (by kernel_rfl) (by omega) (Xg.get_ints (by omega)) (by kernel_rfl)) ?_
      refine Xg.any_int .u16 (IntKind.wrap .u16 ((xs.getD (4 : Nat) (0 : Int)))) 16 (by kernel_rfl) rfl (by kernel_rfl) (by kernel_rfl) (by kernel_rfl) (by kernel_rfl) rfl (fun _ => by kernel_rfl) (Xg.wrap_u16_in (by omega)) ?_
      refine Xg.any_pure ((Value.slice sa (19 : Nat) sc)) 17 (by kernel_rfl) rfl (by kernel_rfl) (by kernel_rfl) (by kernel_rfl) (by kernel_rfl) rfl (fun _ => by kernel_rfl) ?_
      refine Xg.any_reads (.pointer (some (Addr.mk (Xg.blk sa) (offA sa + (5 : Nat)) none))) 18 11 (by kernel_rfl) rfl (by kernel_rfl) (by kernel_rfl) (by kernel_rfl) (by kernel_rfl) rfl rfl (by kernel_rfl) (Xg.rd_now 0 hr (by kernel_rfl)) (Xg.run_ix_rd (elem := 5) (kd := .i64) (e := ((5 : Int))) 1 ((5 : Nat)) (offA sa + (5 : Nat)) (by kernel_rfl) (by kernel_rfl) (by kernel_rfl) (by kernel_rfl) rfl (by omega) (by simp only [List.length_map]; omega) (by omega)) ?_
      refine Xg.any_reads (Value.int IntKind.u8 (xs.getD (5 : Nat) (0 : Int))) 19 12 (by kernel_rfl) rfl (by kernel_rfl) (by kernel_rfl) (by kernel_rfl) (by kernel_rfl) rfl rfl (by kernel_rfl) (Xg.rd_now 0 hr (by kernel_rfl)) (Xg.run_load_rd (off0 := (offA sa + (5 : Nat))) ((5 : Nat)) (by kernel_rfl) (by omega) (Xg.get_ints (by omega)) (by kernel_rfl)) ?_
      refine Xg.any_int .u16 (IntKind.wrap .u16 ((xs.getD (5 : Nat) (0 : Int)))) 20 (by kernel_rfl) rfl (by kernel_rfl) (by kernel_rfl) (by kernel_rfl) (by kernel_rfl) rfl (fun _ => by kernel_rfl) (Xg.wrap_u16_in (by omega)) ?_
      refine Xg.any_int .u16 (IntKind.wrap .u16 ((xs.getD (5 : Nat) (0 : Int) * (256 : Int)))) 21 (by kernel_rfl) rfl (by kernel_rfl) (by kernel_rfl) (by kernel_rfl) (by kernel_rfl) rfl (fun _ => by kernel_rfl) (Xg.wrap_u16_in (by omega)) ?_
      refine Xg.any_pure (.int .u16 (Xg.bor .u16 ((xs.getD (4 : Nat) (0 : Int))) ((xs.getD (5 : Nat) (0 : Int) * (256 : Int))))) 22 (by kernel_rfl) rfl (by kernel_rfl) (by kernel_rfl) (by kernel_rfl) (by kernel_rfl) rfl (fun _ => by kernel_rfl) ?_
      refine Xg.any_pure ((Value.slice sa (19 : Nat) sc)) 23 (by kernel_rfl) rfl (by kernel_rfl) (by kernel_rfl) (by kernel_rfl) (by kernel_rfl) rfl (fun _ => by kernel_rfl) ?_
      refine Xg.any_reads (.pointer (some (Addr.mk (Xg.blk sa) (offA sa + (6 : Nat)) none))) 24 13 (by kernel_rfl) rfl (by kernel_rfl) (by kernel_rfl) (by kernel_rfl) (by kernel_rfl) rfl rfl (by kernel_rfl) (Xg.rd_now 0 hr (by kernel_rfl)) (Xg.run_ix_rd (elem := 5) (kd := .i64) (e := ((6 : Int))) 1 ((6 : Nat)) (offA sa + (6 : Nat)) (by kernel_rfl) (by kernel_rfl) (by kernel_rfl) (by kernel_rfl) rfl (by omega) (by simp only [List.length_map]; omega) (by omega)) ?_
      refine Xg.any_reads (Value.int IntKind.u8 (xs.getD (6 : Nat) (0 : Int))) 25 14 (by kernel_rfl) rfl (by kernel_rfl) (by kernel_rfl) (by kernel_rfl) (by kernel_rfl) rfl rfl (by kernel_rfl) (Xg.rd_now 0 hr (by kernel_rfl)) (Xg.run_load_rd (off0 := (offA sa + (6 : Nat))) ((6 : Nat)) (by kernel_rfl) (by omega) (Xg.get_ints (by omega)) (by kernel_rfl)) ?_
      refine Xg.any_pure ((Value.slice sa (19 : Nat) sc)) 26 (by kernel_rfl) rfl (by kernel_rfl) (by kernel_rfl) (by kernel_rfl) (by kernel_rfl) rfl (fun _ => by kernel_rfl) ?_
      refine Xg.any_reads (.pointer (some (Addr.mk (Xg.blk sa) (offA sa + (7 : Nat)) none))) 27 15 (by kernel_rfl) rfl (by kernel_rfl) (by kernel_rfl) (by kernel_rfl) (by kernel_rfl) rfl rfl (by kernel_rfl) (Xg.rd_now 0 hr (by kernel_rfl)) (Xg.run_ix_rd (elem := 5) (kd := .i64) (e := ((7 : Int))) 1 ((7 : Nat)) (offA sa + (7 : Nat)) (by kernel_rfl) (by kernel_rfl) (by kernel_rfl) (by kernel_rfl) rfl (by omega) (by simp only [List.length_map]; omega) (by omega)) ?_
      refine Xg.any_reads (Value.int IntKind.u8 (xs.getD (7 : Nat) (0 : Int))) 28 16 (by kernel_rfl) rfl (by kernel_rfl) (by kernel_rfl) (by kernel_rfl) (by kernel_rfl) rfl rfl (by kernel_rfl) (Xg.rd_now 0 hr (by kernel_rfl)) (Xg.run_load_rd (off0 := (offA sa + (7 : Nat))) ((7 : Nat)) (by kernel_rfl) (by omega) (Xg.get_ints (by omega)) (by kernel_rfl)) ?_
      refine Xg.any_pure ((Value.slice sa (19 : Nat) sc)) 29 (by kernel_rfl) rfl (by kernel_rfl) (by kernel_rfl) (by kernel_rfl) (by kernel_rfl) rfl (fun _ => by kernel_rfl) ?_
      refine Xg.any_reads (.pointer (some (Addr.mk (Xg.blk sa) (offA sa + (8 : Nat)) none))) 30 17 (by kernel_rfl) rfl (by kernel_rfl) (by kernel_rfl) (by kernel_rfl) (by kernel_rfl) rfl rfl (by kernel_rfl) (Xg.rd_now 0 hr (by kernel_rfl)) (Xg.run_ix_rd (elem := 5) (kd := .i64) (e := ((8 : Int))) 1 ((8 : Nat)) (offA sa + (8 : Nat)) (by kernel_rfl) (by kernel_rfl) (by kernel_rfl) (by kernel_rfl) rfl (by omega) (by simp only [List.length_map]; omega) (by omega)) ?_
      refine Xg.any_reads (Value.int IntKind.u8 (xs.getD (8 : Nat) (0 : Int))) 31 18 (by kernel_rfl) rfl (by kernel_rfl) (by kernel_rfl) (by kernel_rfl) (by kernel_rfl) rfl rfl (by kernel_rfl) (Xg.rd_now 0 hr (by kernel_rfl)) (Xg.run_load_rd (off0 := (offA sa + (8 : Nat))) ((8 : Nat)) (by kernel_rfl) (by omega) (Xg.get_ints (by omega)) (by kernel_rfl)) ?_
      refine Xg.any_pure ((Value.slice sa (19 : Nat) sc)) 32 (by kernel_rfl) rfl (by kernel_rfl) (by kernel_rfl) (by kernel_rfl) (by kernel_rfl) rfl (fun _ => by kernel_rfl) ?_
      refine Xg.any_reads (.pointer (some (Addr.mk (Xg.blk sa) (offA sa + (9 : Nat)) none))) 33 19 (by kernel_rfl) rfl (by kernel_rfl) (by kernel_rfl) (by kernel_rfl) (by kernel_rfl) rfl rfl (by kernel_rfl) (Xg.rd_now 0 hr (by kernel_rfl)) (Xg.run_ix_rd (elem := 5) (kd := .i64) (e := ((9 : Int))) 1 ((9 : Nat)) (offA sa + (9 : Nat)) (by kernel_rfl) (by kernel_rfl) (by kernel_rfl) (by kernel_rfl) rfl (by omega) (by simp only [List.length_map]; omega) (by omega)) ?_
      refine Xg.any_reads (Value.int IntKind.u8 (xs.getD (9 : Nat) (0 : Int))) 34 20 (by kernel_rfl) rfl (by kernel_rfl) (by kernel_rfl) (by kernel_rfl) (by kernel_rfl) rfl rfl (by kernel_rfl) (Xg.rd_now 0 hr (by kernel_rfl)) (Xg.run_load_rd (off0 := (offA sa + (9 : Nat))) ((9 : Nat)) (by kernel_rfl) (by omega) (Xg.get_ints (by omega)) (by kernel_rfl)) ?_
      refine Xg.any_pure ((Value.slice sa (19 : Nat) sc)) 35 (by kernel_rfl) rfl (by kernel_rfl) (by kernel_rfl) (by kernel_rfl) (by kernel_rfl) rfl (fun _ => by kernel_rfl) ?_
      refine Xg.any_reads (.pointer (some (Addr.mk (Xg.blk sa) (offA sa + (10 : Nat)) none))) 36 21 (by kernel_rfl) rfl (by kernel_rfl) (by kernel_rfl) (by kernel_rfl) (by kernel_rfl) rfl rfl (by kernel_rfl) (Xg.rd_now 0 hr (by kernel_rfl)) (Xg.run_ix_rd (elem := 5) (kd := .i64) (e := ((10 : Int))) 1 ((10 : Nat)) (offA sa + (10 : Nat)) (by kernel_rfl) (by kernel_rfl) (by kernel_rfl) (by kernel_rfl) rfl (by omega) (by simp only [List.length_map]; omega) (by omega)) ?_
      refine Xg.any_reads (Value.int IntKind.u8 (xs.getD (10 : Nat) (0 : Int))) 37 22 (by kernel_rfl) rfl (by kernel_rfl) (by kernel_rfl) (by kernel_rfl) (by kernel_rfl) rfl rfl (by kernel_rfl) (Xg.rd_now 0 hr (by kernel_rfl)) (Xg.run_load_rd (off0 := (offA sa + (10 : Nat))) ((10 : Nat)) (by kernel_rfl) (by omega) (Xg.get_ints (by omega)) (by kernel_rfl)) ?_
      refine Xg.any_int .i64 (IntKind.wrap .i64 ((xs.getD (10 : Nat) (0 : Int)))) 38 (by kernel_rfl) rfl (by kernel_rfl) (by kernel_rfl) (by kernel_rfl) (by kernel_rfl) rfl (fun _ => by kernel_rfl) (Xg.wrap_i64_in (by omega)) ?_
      refine Xg.any_pure ((Value.int IntKind.i64 (bor IntKind.i64 (xs.getD (11 : Nat) (0 : Int)) (xs.getD (12 : Nat) (0 : Int) * (256 : Int))))) 39 (by kernel_rfl) rfl (by kernel_rfl) (by kernel_rfl) (by kernel_rfl) (by kernel_rfl) rfl (fun _ => by kernel_rfl) ?_
      refine Xg.any_pure ((Value.slice sa (19 : Nat) sc)) 40 (by kernel_rfl) rfl (by kernel_rfl) (by kernel_rfl) (by kernel_rfl) (by kernel_rfl) rfl (fun _ => by kernel_rfl) ?_
      refine Xg.any_reads (.pointer (some (Addr.mk (Xg.blk sa) (offA sa + (13 : Nat)) none))) 41 23 (by kernel_rfl) rfl (by kernel_rfl) (by kernel_rfl) (by kernel_rfl) (by kernel_rfl) rfl rfl (by kernel_rfl) (Xg.rd_now 0 hr (by kernel_rfl)) (Xg.run_ix_rd (elem := 5) (kd := .i64) (e := ((13 : Int))) 1 ((13 : Nat)) (offA sa + (13 : Nat)) (by kernel_rfl) (by kernel_rfl) (by kernel_rfl) (by kernel_rfl) rfl (by omega) (by simp only [List.length_map]; omega) (by omega)) ?_
      refine Xg.any_reads (Value.int IntKind.u8 (xs.getD (13 : Nat) (0 : Int))) 42 24 (by kernel_rfl) rfl (by kernel_rfl) (by kernel_rfl) (by kernel_rfl) (by kernel_rfl) rfl rfl (by kernel_rfl) (Xg.rd_now 0 hr (by kernel_rfl)) (Xg.run_load_rd (off0 := (offA sa + (13 : Nat))) ((13 : Nat)) (by kernel_rfl) (by omega) (Xg.get_ints (by omega)) (by kernel_rfl)) ?_
      refine Xg.any_pure ((Value.agg #[Value.int IntKind.u8 (xs.getD (0 : Nat) (0 : Int)), Value.int IntKind.u8 (xs.getD (1 : Nat) (0 : Int)), Value.int IntKind.u8 (xs.getD (2 : Nat) (0 : Int)), Value.int IntKind.u8 (xs.getD (3 : Nat) (0 : Int)), Value.int IntKind.u16 (bor IntKind.u16 (xs.getD (4 : Nat) (0 : Int)) (xs.getD (5 : Nat) (0 : Int) * (256 : Int))), Value.int IntKind.u8 (xs.getD (6 : Nat) (0 : Int)), Value.int IntKind.u8 (xs.getD (7 : Nat) (0 : Int)), Value.int IntKind.u8 (xs.getD (8 : Nat) (0 : Int)), Value.int IntKind.u8 (xs.getD (9 : Nat) (0 : Int)), Value.int IntKind.i64 (xs.getD (10 : Nat) (0 : Int)), Value.int IntKind.i64 (bor IntKind.i64 (xs.getD (11 : Nat) (0 : Int)) (xs.getD (12 : Nat) (0 : Int) * (256 : Int))), Value.int IntKind.u8 (xs.getD (13 : Nat) (0 : Int)), Value.slice none (0 : Nat) (0 : Nat)])) 43 (by kernel_rfl) rfl (by kernel_rfl) (by kernel_rfl) (by kernel_rfl) (by kernel_rfl) rfl (fun _ => by kernel_rfl) ?_
      refine Xg.any_pure ((Value.pointer (some (Addr.mk p (0 : Nat) none)))) 44 (by kernel_rfl) rfl (by kernel_rfl) (by kernel_rfl) (by kernel_rfl) (by kernel_rfl) rfl (fun _ => by kernel_rfl) ?_
      refine Xg.any_each [45] (by kernel_rfl) rfl ⟨?_, trivial⟩
      refine Xg.comes_act rfl (by kernel_rfl) (by kernel_rfl) (Xg.opx_storen 13 (off := 0) 1 [Value.int IntKind.u8 (xs.getD (0 : Nat) (0 : Int)), Value.int IntKind.u8 (xs.getD (1 : Nat) (0 : Int)), Value.int IntKind.u8 (xs.getD (2 : Nat) (0 : Int)), Value.int IntKind.u8 (xs.getD (3 : Nat) (0 : Int)), Value.int IntKind.u16 (bor IntKind.u16 (xs.getD (4 : Nat) (0 : Int)) (xs.getD (5 : Nat) (0 : Int) * (256 : Int))), Value.int IntKind.u8 (xs.getD (6 : Nat) (0 : Int)), Value.int IntKind.u8 (xs.getD (7 : Nat) (0 : Int)), Value.int IntKind.u8 (xs.getD (8 : Nat) (0 : Int)), Value.int IntKind.u8 (xs.getD (9 : Nat) (0 : Int)), Value.int IntKind.i64 (xs.getD (10 : Nat) (0 : Int)), Value.int IntKind.i64 (bor IntKind.i64 (xs.getD (11 : Nat) (0 : Int)) (xs.getD (12 : Nat) (0 : Int) * (256 : Int))), Value.int IntKind.u8 (xs.getD (13 : Nat) (0 : Int)), Value.slice none (0 : Nat) (0 : Nat)] (by kernel_rfl) rfl (by kernel_rfl) (by kernel_rfl) rfl (by kernel_rfl) (Nat.le_of_ble_eq_true (by kernel_rfl)) ?_)
      refine Xg.acts (Xg.owes_skip (by kernel_rfl) (Xg.owes_skip (by kernel_rfl) (Xg.owes_skip (by kernel_rfl) (Xg.owes_skip (by kernel_rfl) (Xg.owes_skip (by kernel_rfl) (Xg.owes_skip (by kernel_rfl) (Xg.owes_skip (by kernel_rfl) (Xg.owes_skip (by kernel_rfl) (Xg.owes_skip (by kernel_rfl) (Xg.owes_skip (by kernel_rfl) (Xg.owes_skip (by kernel_rfl) (Xg.owes_skip (by kernel_rfl) (Xg.owes_skip (by kernel_rfl) (Xg.owes_skip (by kernel_rfl) (Xg.owes_skip (by kernel_rfl) (Xg.owes_skip (by kernel_rfl) (Xg.owes_skip (by kernel_rfl) (Xg.owes_skip (by kernel_rfl) (Xg.owes_skip (by kernel_rfl) (Xg.owes_skip (by kernel_rfl) (Xg.owes_skip (by kernel_rfl) (Xg.owes_skip (by kernel_rfl) (Xg.owes_skip (by kernel_rfl) (Xg.owes_skip (by kernel_rfl) (Xg.owes_skip (by kernel_rfl) Xg.owes_nil))))))))))))))))))))))))) ?_
      refine Xg.any_nil (by kernel_rfl) ?_
      refine Xg.at_seq ?_
      refine Xg.at_region ?_
      refine Xg.ops_op (by kernel_rfl) (Xg.opx_pure ((Value.int IntKind.i64 (0 : Int))) rfl (fun _ => by kernel_rfl) ?_)
      refine Xg.ops_nil ?_
      refine Xg.at_ret_ps (v := (Value.int IntKind.i64 (0 : Int))) [1, 0] [row p (60 : TypeId) [Value.int IntKind.u8 (xs.getD (0 : Nat) (0 : Int)), Value.int IntKind.u8 (xs.getD (1 : Nat) (0 : Int)), Value.int IntKind.u8 (xs.getD (2 : Nat) (0 : Int)), Value.int IntKind.u8 (xs.getD (3 : Nat) (0 : Int)), Value.int IntKind.u16 (bor IntKind.u16 (xs.getD (4 : Nat) (0 : Int)) (xs.getD (5 : Nat) (0 : Int) * (256 : Int))), Value.int IntKind.u8 (xs.getD (6 : Nat) (0 : Int)), Value.int IntKind.u8 (xs.getD (7 : Nat) (0 : Int)), Value.int IntKind.u8 (xs.getD (8 : Nat) (0 : Int)), Value.int IntKind.u8 (xs.getD (9 : Nat) (0 : Int)), Value.int IntKind.i64 (xs.getD (10 : Nat) (0 : Int)), Value.int IntKind.i64 (bor IntKind.i64 (xs.getD (11 : Nat) (0 : Int)) (xs.getD (12 : Nat) (0 : Int) * (256 : Int))), Value.int IntKind.u8 (xs.getD (13 : Nat) (0 : Int)), Value.slice none (0 : Nat) (0 : Nat)], A] Go.Proofs.Tryd.func24 (fun _ => by kernel_rfl) (by kernel_rfl) (by kernel_rfl) ?_
      exact ⟨by kernel_rfl, by kernel_rfl⟩)
  · have hgp : ¬ bor .i64 (xs.getD 11 0) (xs.getD 12 0 * 256) > 0 := fun h => hline (hli.1 h)
    have hse0 := hse (by omega)
    (focus
      refine Xg.spec_of Go.Proofs.Tryd.func24 rfl Go.Proofs.Tryd.ntmps24 fun g F => ?_)
    (focus
      refine Xg.at_seq ?_
      refine Xg.at_region ?_
      refine Xg.ops_op (by kernel_rfl) (Xg.opx_pure ((Value.int IntKind.i64 (0 : Int))) rfl (fun _ => by kernel_rfl) ?_)
      refine Xg.ops_nil ?_
      refine Xg.at_seq ?_
      refine Xg.at_seq ?_
      refine Xg.at_region ?_
      refine Xg.ops_op (by kernel_rfl) (Xg.opx_pure ((Value.slice sa (19 : Nat) sc)) rfl (fun _ => by kernel_rfl) ?_)
      refine Xg.ops_op (by kernel_rfl) (Xg.opx_pure ((Value.int IntKind.i64 (19 : Int))) rfl (fun _ => by kernel_rfl) ?_)
      refine Xg.ops_op (by kernel_rfl) (Xg.opx_pure ((Value.bool false)) rfl (fun _ => by kernel_rfl) ?_)
      refine Xg.ops_op (by kernel_rfl) (Xg.opx_pure ((Value.bool false)) rfl (fun _ => by kernel_rfl) ?_)
      refine Xg.ops_op (by kernel_rfl) (Xg.opx_pure ((Value.slice sa (19 : Nat) sc)) rfl (fun _ => by kernel_rfl) ?_)
      refine Xg.ops_op (by kernel_rfl) (Xg.opx_rd 1 (.pointer (some (Addr.mk (Xg.blk sa) (offA sa + (1 : Nat)) none))) rfl hr (by kernel_rfl) (Xg.run_ix_rd (elem := 5) (kd := .i64) (e := ((1 : Int))) 1 ((1 : Nat)) (offA sa + (1 : Nat)) (by kernel_rfl) (by kernel_rfl) (by kernel_rfl) (by kernel_rfl) rfl (by omega) (by simp only [List.length_map]; omega) (by omega)) ?_)
      refine Xg.ops_op (by kernel_rfl) (Xg.opx_rd 1 (Value.int IntKind.u8 (xs.getD (1 : Nat) (0 : Int))) rfl hr (by kernel_rfl) (Xg.run_load_rd (off0 := (offA sa + (1 : Nat))) ((1 : Nat)) (by kernel_rfl) (by omega) (Xg.get_ints (by omega)) (by kernel_rfl)) ?_)
      refine Xg.ops_op (by kernel_rfl) (Xg.opx_pure (.int .u8 (Xg.bclr .u8 ((xs.getD (1 : Nat) (0 : Int))) (((48 : Int))))) rfl (fun _ => by kernel_rfl) ?_)
      refine Xg.ops_op (by kernel_rfl) (Xg.opx_pure (.bool (!decide (((bclr IntKind.u8 (xs.getD (1 : Nat) (0 : Int)) (48 : Int)) : Int) = ((0 : Int))))) rfl (fun _ => by kernel_rfl) ?_)
      refine Xg.ops_op (by kernel_rfl) (Xg.opx_pure ((Value.bool !decide (bclr IntKind.u8 (xs.getD (1 : Nat) (0 : Int)) (48 : Int) = (0 : Int)))) rfl (fun _ => by kernel_rfl) ?_)
      refine Xg.ops_op (by kernel_rfl) (Xg.opx_pure ((Value.bool !decide (bclr IntKind.u8 (xs.getD (1 : Nat) (0 : Int)) (48 : Int) = (0 : Int)))) rfl (fun _ => by kernel_rfl) ?_)
      refine Xg.ops_flag (j := 16) (c := (!decide (bclr IntKind.u8 (xs.getD (1 : Nat) (0 : Int)) (48 : Int) = (0 : Int)))) (by kernel_rfl) (fun xh1 => absurd xh1 (by rw [decide_eq_true (p := (bclr IntKind.u8 (xs.getD (1 : Nat) (0 : Int)) (48 : Int) = (0 : Int))) (by omega)]; decide)) (fun _ => ?_)
      refine Xg.ops_op (by kernel_rfl) (Xg.opx_pure ((Value.slice sa (19 : Nat) sc)) rfl (fun _ => by kernel_rfl) ?_)
      refine Xg.ops_op (by kernel_rfl) (Xg.opx_rd 1 (.pointer (some (Addr.mk (Xg.blk sa) (offA sa + (3 : Nat)) none))) rfl hr (by kernel_rfl) (Xg.run_ix_rd (elem := 5) (kd := .i64) (e := ((3 : Int))) 1 ((3 : Nat)) (offA sa + (3 : Nat)) (by kernel_rfl) (by kernel_rfl) (by kernel_rfl) (by kernel_rfl) rfl (by omega) (by simp only [List.length_map]; omega) (by omega)) ?_)
      refine Xg.ops_op (by kernel_rfl) (Xg.opx_rd 1 (Value.int IntKind.u8 (xs.getD (3 : Nat) (0 : Int))) rfl hr (by kernel_rfl) (Xg.run_load_rd (off0 := (offA sa + (3 : Nat))) ((3 : Nat)) (by kernel_rfl) (by omega) (Xg.get_ints (by omega)) (by kernel_rfl)) ?_)
      refine Xg.ops_op (by kernel_rfl) (Xg.opx_pure (.int .u8 (Xg.bclr .u8 ((xs.getD (3 : Nat) (0 : Int))) (((129 : Int))))) rfl (fun _ => by kernel_rfl) ?_)
      refine Xg.ops_op (by kernel_rfl) (Xg.opx_pure (.bool (!decide (((bclr IntKind.u8 (xs.getD (3 : Nat) (0 : Int)) (129 : Int)) : Int) = ((0 : Int))))) rfl (fun _ => by kernel_rfl) ?_)
      refine Xg.ops_op (by kernel_rfl) (Xg.opx_pure ((Value.bool !decide (bclr IntKind.u8 (xs.getD (3 : Nat) (0 : Int)) (129 : Int) = (0 : Int)))) rfl (fun _ => by kernel_rfl) ?_)
      refine Xg.ops_op (by kernel_rfl) (Xg.opx_pure ((Value.bool !decide (bclr IntKind.u8 (xs.getD (3 : Nat) (0 : Int)) (129 : Int) = (0 : Int)))) rfl (fun _ => by kernel_rfl) ?_)
      refine Xg.ops_flag (j := 23) (c := (!decide (bclr IntKind.u8 (xs.getD (3 : Nat) (0 : Int)) (129 : Int) = (0 : Int)))) (by kernel_rfl) (fun xh1 => absurd xh1 (by rw [decide_eq_true (p := (bclr IntKind.u8 (xs.getD (3 : Nat) (0 : Int)) (129 : Int) = (0 : Int))) (by omega)]; decide)) (fun _ => ?_)
      refine Xg.ops_op (by kernel_rfl) (Xg.opx_pure ((Value.slice sa (19 : Nat) sc)) rfl (fun _ => by kernel_rfl) ?_)
      refine Xg.ops_op (by kernel_rfl) (Xg.opx_rd 1 (.pointer (some (Addr.mk (Xg.blk sa) (offA sa + (8 : Nat)) none))) rfl hr (by kernel_rfl) (Xg.run_ix_rd (elem := 5) (kd := .i64) (e := ((8 : Int))) 1 ((8 : Nat)) (offA sa + (8 : Nat)) (by kernel_rfl) (by kernel_rfl) (by kernel_rfl) (by kernel_rfl) rfl (by omega) (by simp only [List.length_map]; omega) (by omega)) ?_)
      refine Xg.ops_op (by kernel_rfl) (Xg.opx_rd 1 (Value.int IntKind.u8 (xs.getD (8 : Nat) (0 : Int))) rfl hr (by kernel_rfl) (Xg.run_load_rd (off0 := (offA sa + (8 : Nat))) ((8 : Nat)) (by kernel_rfl) (by omega) (Xg.get_ints (by omega)) (by kernel_rfl)) ?_)
      refine Xg.ops_op (by kernel_rfl) (Xg.opx_pure (.int .u8 (Xg.bclr .u8 ((xs.getD (8 : Nat) (0 : Int))) (((7 : Int))))) rfl (fun _ => by kernel_rfl) ?_)
      refine Xg.ops_op (by kernel_rfl) (Xg.opx_pure (.bool (!decide (((bclr IntKind.u8 (xs.getD (8 : Nat) (0 : Int)) (7 : Int)) : Int) = ((0 : Int))))) rfl (fun _ => by kernel_rfl) ?_)
      refine Xg.ops_op (by kernel_rfl) (Xg.opx_pure ((Value.bool !decide (bclr IntKind.u8 (xs.getD (8 : Nat) (0 : Int)) (7 : Int) = (0 : Int)))) rfl (fun _ => by kernel_rfl) ?_)
      refine Xg.ops_op (by kernel_rfl) (Xg.opx_pure ((Value.bool !decide (bclr IntKind.u8 (xs.getD (8 : Nat) (0 : Int)) (7 : Int) = (0 : Int)))) rfl (fun _ => by kernel_rfl) ?_)
      refine Xg.ops_flag (j := 30) (c := (!decide (bclr IntKind.u8 (xs.getD (8 : Nat) (0 : Int)) (7 : Int) = (0 : Int)))) (by kernel_rfl) (fun xh1 => absurd xh1 (by rw [decide_eq_true (p := (bclr IntKind.u8 (xs.getD (8 : Nat) (0 : Int)) (7 : Int) = (0 : Int))) (by omega)]; decide)) (fun _ => ?_)
      refine Xg.ops_op (by kernel_rfl) (Xg.opx_pure ((Value.slice sa (19 : Nat) sc)) rfl (fun _ => by kernel_rfl) ?_)
      refine Xg.ops_op (by kernel_rfl) (Xg.opx_rd 1 (.pointer (some (Addr.mk (Xg.blk sa) (offA sa + (9 : Nat)) none))) rfl hr (by kernel_rfl) (Xg.run_ix_rd (elem := 5) (kd := .i64) (e := ((9 : Int))) 1 ((9 : Nat)) (offA sa + (9 : Nat)) (by kernel_rfl) (by kernel_rfl) (by kernel_rfl) (by kernel_rfl) rfl (by omega) (by simp only [List.length_map]; omega) (by omega)) ?_)
      refine Xg.ops_op (by kernel_rfl) (Xg.opx_rd 1 (Value.int IntKind.u8 (xs.getD (9 : Nat) (0 : Int))) rfl hr (by kernel_rfl) (Xg.run_load_rd (off0 := (offA sa + (9 : Nat))) ((9 : Nat)) (by kernel_rfl) (by omega) (Xg.get_ints (by omega)) (by kernel_rfl)) ?_)
      refine Xg.ops_op (by kernel_rfl) (Xg.opx_pure (.int .u8 (Xg.bclr .u8 ((xs.getD (9 : Nat) (0 : Int))) (((31 : Int))))) rfl (fun _ => by kernel_rfl) ?_)
      refine Xg.ops_op (by kernel_rfl) (Xg.opx_pure (.bool (!decide (((bclr IntKind.u8 (xs.getD (9 : Nat) (0 : Int)) (31 : Int)) : Int) = ((0 : Int))))) rfl (fun _ => by kernel_rfl) ?_)
      refine Xg.ops_op (by kernel_rfl) (Xg.opx_pure ((Value.bool !decide (bclr IntKind.u8 (xs.getD (9 : Nat) (0 : Int)) (31 : Int) = (0 : Int)))) rfl (fun _ => by kernel_rfl) ?_)
      refine Xg.ops_op (by kernel_rfl) (Xg.opx_pure ((Value.bool !decide (bclr IntKind.u8 (xs.getD (9 : Nat) (0 : Int)) (31 : Int) = (0 : Int)))) rfl (fun _ => by kernel_rfl) ?_)
      refine Xg.ops_flag (j := 37) (c := (!decide (bclr IntKind.u8 (xs.getD (9 : Nat) (0 : Int)) (31 : Int) = (0 : Int)))) (by kernel_rfl) (fun xh1 => absurd xh1 (by rw [decide_eq_true (p := (bclr IntKind.u8 (xs.getD (9 : Nat) (0 : Int)) (31 : Int) = (0 : Int))) (by omega)]; decide)) (fun _ => ?_)
      refine Xg.ops_op (by kernel_rfl) (Xg.opx_pure ((Value.slice sa (19 : Nat) sc)) rfl (fun _ => by kernel_rfl) ?_)
      refine Xg.ops_op (by kernel_rfl) (Xg.opx_rd 1 (.pointer (some (Addr.mk (Xg.blk sa) (offA sa + (10 : Nat)) none))) rfl hr (by kernel_rfl) (Xg.run_ix_rd (elem := 5) (kd := .i64) (e := ((10 : Int))) 1 ((10 : Nat)) (offA sa + (10 : Nat)) (by kernel_rfl) (by kernel_rfl) (by kernel_rfl) (by kernel_rfl) rfl (by omega) (by simp only [List.length_map]; omega) (by omega)) ?_)
      refine Xg.ops_op (by kernel_rfl) (Xg.opx_rd 1 (Value.int IntKind.u8 (xs.getD (10 : Nat) (0 : Int))) rfl hr (by kernel_rfl) (Xg.run_load_rd (off0 := (offA sa + (10 : Nat))) ((10 : Nat)) (by kernel_rfl) (by omega) (Xg.get_ints (by omega)) (by kernel_rfl)) ?_)
      refine Xg.ops_op (by kernel_rfl) (Xg.opx_pure (.bool (decide (((xs.getD (10 : Nat) (0 : Int)) : Int) > ((4 : Int))))) rfl (fun _ => by kernel_rfl) ?_)
      refine Xg.ops_op (by kernel_rfl) (Xg.opx_pure ((Value.bool (decide (xs.getD (10 : Nat) (0 : Int) > (4 : Int))))) rfl (fun _ => by kernel_rfl) ?_)
      refine Xg.ops_nil ?_
      refine Xg.at_false (t := decide ((xs.getD (10 : Nat) (0 : Int) > (4 : Int)))) (by kernel_rfl) (decide_eq_false (by omega)) ?_
      refine Xg.at_skip ?_
      refine Xg.at_seq ?_
      refine Xg.at_draw [] [(0, [0, 4, 5, 6, 7, 8], (RdIs (1 : Nat) (Value.slice sa (19 : Nat) sc) (19 : Nat) (List.map (Value.int IntKind.u8) xs))), (1, [0, 1, 4, 5, 6, 7, 8], (RdIs (1 : Nat) (Value.slice sa (19 : Nat) sc) (19 : Nat) (List.map (Value.int IntKind.u8) xs))), (2, [0, 1, 2, 4, 5, 6, 7, 8], (RdIs (1 : Nat) (Value.slice sa (19 : Nat) sc) (19 : Nat) (List.map (Value.int IntKind.u8) xs))), (5, [0, 1, 2, 3, 4, 5], (RdIs (1 : Nat) (Value.slice sa (19 : Nat) sc) (19 : Nat) (List.map (Value.int IntKind.u8) xs))), (6, [0, 1, 2, 3, 4, 5, 6], (RdIs (1 : Nat) (Value.slice sa (19 : Nat) sc) (19 : Nat) (List.map (Value.int IntKind.u8) xs)))] (by kernel_rfl) ?_
      refine Xg.any_pure ((Value.slice sa (19 : Nat) sc)) 0 (by kernel_rfl) rfl (by kernel_rfl) (by kernel_rfl) (by kernel_rfl) (by kernel_rfl) rfl (fun _ => by kernel_rfl) ?_
      refine Xg.any_reads (.pointer (some (Addr.mk (Xg.blk sa) (offA sa + (11 : Nat)) none))) 1 1 (by kernel_rfl) rfl (by kernel_rfl) (by kernel_rfl) (by kernel_rfl) (by kernel_rfl) rfl rfl (by kernel_rfl) (Xg.rd_now 1 hr (by kernel_rfl)) (Xg.run_ix_rd (elem := 5) (kd := .i64) (e := ((11 : Int))) 1 ((11 : Nat)) (offA sa + (11 : Nat)) (by kernel_rfl) (by kernel_rfl) (by kernel_rfl) (by kernel_rfl) rfl (by omega) (by simp only [List.length_map]; omega) (by omega)) ?_
      refine Xg.any_reads (Value.int IntKind.u8 (xs.getD (11 : Nat) (0 : Int))) 2 2 (by kernel_rfl) rfl (by kernel_rfl) (by kernel_rfl) (by kernel_rfl) (by kernel_rfl) rfl rfl (by kernel_rfl) (Xg.rd_now 1 hr (by kernel_rfl)) (Xg.run_load_rd (off0 := (offA sa + (11 : Nat))) ((11 : Nat)) (by kernel_rfl) (by omega) (Xg.get_ints (by omega)) (by kernel_rfl)) ?_
      refine Xg.any_int .i64 (IntKind.wrap .i64 ((xs.getD (11 : Nat) (0 : Int)))) 3 (by kernel_rfl) rfl (by kernel_rfl) (by kernel_rfl) (by kernel_rfl) (by kernel_rfl) rfl (fun _ => by kernel_rfl) (Xg.wrap_i64_in (by omega)) ?_
      refine Xg.any_pure ((Value.slice sa (19 : Nat) sc)) 4 (by kernel_rfl) rfl (by kernel_rfl) (by kernel_rfl) (by kernel_rfl) (by kernel_rfl) rfl (fun _ => by kernel_rfl) ?_
      refine Xg.any_reads (.pointer (some (Addr.mk (Xg.blk sa) (offA sa + (12 : Nat)) none))) 5 3 (by kernel_rfl) rfl (by kernel_rfl) (by kernel_rfl) (by kernel_rfl) (by kernel_rfl) rfl rfl (by kernel_rfl) (Xg.rd_now 1 hr (by kernel_rfl)) (Xg.run_ix_rd (elem := 5) (kd := .i64) (e := ((12 : Int))) 1 ((12 : Nat)) (offA sa + (12 : Nat)) (by kernel_rfl) (by kernel_rfl) (by kernel_rfl) (by kernel_rfl) rfl (by omega) (by simp only [List.length_map]; omega) (by omega)) ?_
      refine Xg.any_reads (Value.int IntKind.u8 (xs.getD (12 : Nat) (0 : Int))) 6 4 (by kernel_rfl) rfl (by kernel_rfl) (by kernel_rfl) (by kernel_rfl) (by kernel_rfl) rfl rfl (by kernel_rfl) (Xg.rd_now 1 hr (by kernel_rfl)) (Xg.run_load_rd (off0 := (offA sa + (12 : Nat))) ((12 : Nat)) (by kernel_rfl) (by omega) (Xg.get_ints (by omega)) (by kernel_rfl)) ?_
      refine Xg.any_int .i64 (IntKind.wrap .i64 ((xs.getD (12 : Nat) (0 : Int)))) 7 (by kernel_rfl) rfl (by kernel_rfl) (by kernel_rfl) (by kernel_rfl) (by kernel_rfl) rfl (fun _ => by kernel_rfl) (Xg.wrap_i64_in (by omega)) ?_
      refine Xg.any_int .i64 (IntKind.wrap .i64 ((xs.getD (12 : Nat) (0 : Int) * (256 : Int)))) 8 (by kernel_rfl) rfl (by kernel_rfl) (by kernel_rfl) (by kernel_rfl) (by kernel_rfl) rfl (fun _ => by kernel_rfl) (Xg.wrap_i64_in (by omega)) ?_
      refine Xg.any_pure (.int .i64 (Xg.bor .i64 ((xs.getD (11 : Nat) (0 : Int))) ((xs.getD (12 : Nat) (0 : Int) * (256 : Int))))) 9 (by kernel_rfl) rfl (by kernel_rfl) (by kernel_rfl) (by kernel_rfl) (by kernel_rfl) rfl (fun _ => by kernel_rfl) ?_
      refine Xg.any_pure ((Value.int IntKind.i64 (bor IntKind.i64 (xs.getD (11 : Nat) (0 : Int)) (xs.getD (12 : Nat) (0 : Int) * (256 : Int))))) 10 (by kernel_rfl) rfl (by kernel_rfl) (by kernel_rfl) (by kernel_rfl) (by kernel_rfl) rfl (fun _ => by kernel_rfl) ?_
      refine Xg.any_nil (by kernel_rfl) ?_
      refine Xg.at_seq ?_
      refine Xg.at_seq ?_
      refine Xg.at_region ?_
      refine Xg.ops_op (by kernel_rfl) (Xg.opx_pure ((Value.int IntKind.i64 (bor IntKind.i64 (xs.getD (11 : Nat) (0 : Int)) (xs.getD (12 : Nat) (0 : Int) * (256 : Int))))) rfl (fun _ => by kernel_rfl) ?_)
      refine Xg.ops_op (by kernel_rfl) (Xg.opx_pure (.bool (decide (((bor IntKind.i64 (xs.getD (11 : Nat) (0 : Int)) (xs.getD (12 : Nat) (0 : Int) * (256 : Int))) : Int) > ((4096 : Int))))) rfl (fun _ => by kernel_rfl) ?_)
      refine Xg.ops_op (by kernel_rfl) (Xg.opx_pure ((Value.bool (decide (bor IntKind.i64 (xs.getD (11 : Nat) (0 : Int)) (xs.getD (12 : Nat) (0 : Int) * (256 : Int)) > (4096 : Int))))) rfl (fun _ => by kernel_rfl) ?_)
      refine Xg.ops_flag (j := 55) (c := (decide (bor IntKind.i64 (xs.getD (11 : Nat) (0 : Int)) (xs.getD (12 : Nat) (0 : Int) * (256 : Int)) > (4096 : Int)))) (by kernel_rfl) (fun xh1 => absurd (of_decide_eq_true xh1) (by omega)) (fun _ => ?_)
      refine Xg.ops_op (by kernel_rfl) (Xg.opx_pure ((Value.int IntKind.i64 (bor IntKind.i64 (xs.getD (11 : Nat) (0 : Int)) (xs.getD (12 : Nat) (0 : Int) * (256 : Int))))) rfl (fun _ => by kernel_rfl) ?_)
      refine Xg.ops_op (by kernel_rfl) (Xg.opx_pure (.bool (decide (((bor IntKind.i64 (xs.getD (11 : Nat) (0 : Int)) (xs.getD (12 : Nat) (0 : Int) * (256 : Int))) : Int) > ((0 : Int))))) rfl (fun _ => by kernel_rfl) ?_)
      refine Xg.ops_op (by kernel_rfl) (Xg.opx_pure ((Value.slice sa (19 : Nat) sc)) rfl (fun _ => by kernel_rfl) ?_)
      refine Xg.ops_op (by kernel_rfl) (Xg.opx_rd 1 (.pointer (some (Addr.mk (Xg.blk sa) (offA sa + (3 : Nat)) none))) rfl hr (by kernel_rfl) (Xg.run_ix_rd (elem := 5) (kd := .i64) (e := ((3 : Int))) 1 ((3 : Nat)) (offA sa + (3 : Nat)) (by kernel_rfl) (by kernel_rfl) (by kernel_rfl) (by kernel_rfl) rfl (by omega) (by simp only [List.length_map]; omega) (by omega)) ?_)
      refine Xg.ops_op (by kernel_rfl) (Xg.opx_rd 1 (Value.int IntKind.u8 (xs.getD (3 : Nat) (0 : Int))) rfl hr (by kernel_rfl) (Xg.run_load_rd (off0 := (offA sa + (3 : Nat))) ((3 : Nat)) (by kernel_rfl) (by omega) (Xg.get_ints (by omega)) (by kernel_rfl)) ?_)
      refine Xg.ops_op (by kernel_rfl) (Xg.opx_pure (.bool (decide (((xs.getD (3 : Nat) (0 : Int)) : Int) = ((129 : Int))))) rfl (fun _ => by kernel_rfl) ?_)
      refine Xg.ops_flag (j := 61) (c := (decide (xs.getD (3 : Nat) (0 : Int) = (129 : Int)))) (by kernel_rfl) (fun xh1 => absurd (of_decide_eq_true xh1) (by omega)) (fun _ => ?_)
      refine Xg.ops_op (by kernel_rfl) (Xg.opx_eq (v := ((Value.bool !decide (bor IntKind.i64 (xs.getD (11 : Nat) (0 : Int)) (xs.getD (12 : Nat) (0 : Int) * (256 : Int)) > (0 : Int)) == false))) (.bool (decide (bor IntKind.i64 (xs.getD (11 : Nat) (0 : Int)) (xs.getD (12 : Nat) (0 : Int) * (256 : Int)) > (0 : Int)))) rfl (fun _ => by kernel_rfl) (by generalize ((decide (bor IntKind.i64 (xs.getD (11 : Nat) (0 : Int)) (xs.getD (12 : Nat) (0 : Int) * (256 : Int)) > (0 : Int))) : Bool) = bb; cases bb <;> rfl) ?_)
      refine Xg.ops_op (by kernel_rfl) (Xg.opx_pure ((Value.bool (decide (bor IntKind.i64 (xs.getD (11 : Nat) (0 : Int)) (xs.getD (12 : Nat) (0 : Int) * (256 : Int)) > (0 : Int))))) rfl (fun _ => by kernel_rfl) ?_)
      refine Xg.ops_op (by kernel_rfl) (Xg.opx_pure ((Value.bool (decide (bor IntKind.i64 (xs.getD (11 : Nat) (0 : Int)) (xs.getD (12 : Nat) (0 : Int) * (256 : Int)) > (0 : Int))))) rfl (fun _ => by kernel_rfl) ?_)
      refine Xg.ops_flag (j := 64) (c := (decide (bor IntKind.i64 (xs.getD (11 : Nat) (0 : Int)) (xs.getD (12 : Nat) (0 : Int) * (256 : Int)) > (0 : Int)))) (by kernel_rfl) (fun xh1 => absurd (of_decide_eq_true xh1) (by omega)) (fun _ => ?_)
      refine Xg.ops_op (by kernel_rfl) (Xg.opx_pure ((Value.int IntKind.i64 (bor IntKind.i64 (xs.getD (11 : Nat) (0 : Int)) (xs.getD (12 : Nat) (0 : Int) * (256 : Int))))) rfl (fun _ => by kernel_rfl) ?_)
      refine Xg.ops_op (by kernel_rfl) (Xg.opx_pure (.bool (decide (((bor IntKind.i64 (xs.getD (11 : Nat) (0 : Int)) (xs.getD (12 : Nat) (0 : Int) * (256 : Int))) : Int) = ((0 : Int))))) rfl (fun _ => by kernel_rfl) ?_)
      refine Xg.ops_op (by kernel_rfl) (Xg.opx_pure ((Value.bool (decide (bor IntKind.i64 (xs.getD (11 : Nat) (0 : Int)) (xs.getD (12 : Nat) (0 : Int) * (256 : Int)) = (0 : Int))))) rfl (fun _ => by kernel_rfl) ?_)
      refine Xg.ops_flag (j := 67) (c := (decide (bor IntKind.i64 (xs.getD (11 : Nat) (0 : Int)) (xs.getD (12 : Nat) (0 : Int) * (256 : Int)) = (0 : Int)))) (by kernel_rfl) (fun _ => ?_) (fun xh1 => absurd (of_decide_eq_false xh1) (by omega))
      refine Xg.ops_op (by kernel_rfl) (Xg.opx_pure ((Value.slice sa (19 : Nat) sc)) rfl (fun _ => by kernel_rfl) ?_)
      refine Xg.ops_op (by kernel_rfl) (Xg.opx_rd 1 (.pointer (some (Addr.mk (Xg.blk sa) (offA sa + (13 : Nat)) none))) rfl hr (by kernel_rfl) (Xg.run_ix_rd (elem := 5) (kd := .i64) (e := ((13 : Int))) 1 ((13 : Nat)) (offA sa + (13 : Nat)) (by kernel_rfl) (by kernel_rfl) (by kernel_rfl) (by kernel_rfl) rfl (by omega) (by simp only [List.length_map]; omega) (by omega)) ?_)
      refine Xg.ops_op (by kernel_rfl) (Xg.opx_rd 1 (Value.int IntKind.u8 (xs.getD (13 : Nat) (0 : Int))) rfl hr (by kernel_rfl) (Xg.run_load_rd (off0 := (offA sa + (13 : Nat))) ((13 : Nat)) (by kernel_rfl) (by omega) (Xg.get_ints (by omega)) (by kernel_rfl)) ?_)
      refine Xg.ops_op (by kernel_rfl) (Xg.opx_pure (.bool (!decide (((xs.getD (13 : Nat) (0 : Int)) : Int) = ((0 : Int))))) rfl (fun _ => by kernel_rfl) ?_)
      refine Xg.ops_op (by kernel_rfl) (Xg.opx_pure ((Value.bool !decide (xs.getD (13 : Nat) (0 : Int) = (0 : Int)))) rfl (fun _ => by kernel_rfl) ?_)
      refine Xg.ops_op (by kernel_rfl) (Xg.opx_pure ((Value.bool !decide (xs.getD (13 : Nat) (0 : Int) = (0 : Int)))) rfl (fun _ => by kernel_rfl) ?_)
      refine Xg.ops_op (by kernel_rfl) (Xg.opx_pure ((Value.bool !decide (xs.getD (13 : Nat) (0 : Int) = (0 : Int)))) rfl (fun _ => by kernel_rfl) ?_)
      refine Xg.ops_flag (j := 74) (c := (!decide (xs.getD (13 : Nat) (0 : Int) = (0 : Int)))) (by kernel_rfl) (fun xh1 => absurd xh1 (by rw [decide_eq_true (p := (xs.getD (13 : Nat) (0 : Int) = (0 : Int))) (by omega)]; decide)) (fun _ => ?_)
      refine Xg.ops_op (by kernel_rfl) (Xg.opx_pure ((Value.slice sa (19 : Nat) sc)) rfl (fun _ => by kernel_rfl) ?_)
      refine Xg.ops_op (by kernel_rfl) (Xg.opx_run (.slice (Xg.subA sa sc ((14 : Nat)) 1) (((19 : Nat)) - ((14 : Nat))) (sc - ((14 : Nat)))) rfl (Xg.run_sl_lo (elem := 5) (a := sa) (c := sc) (len := ((19 : Nat))) (k1 := .i64) (e1 := ((14 : Int))) 1 ((14 : Nat)) (by kernel_rfl) (by kernel_rfl) (by kernel_rfl) (by kernel_rfl) rfl (by omega)) ?_)
      refine Xg.ops_op (by kernel_rfl) (Xg.opx_call1' [1] [A, PoR p σ s] (fun _ => by kernel_rfl) (@hct ) (by kernel_rfl) (by kernel_rfl) (by kernel_rfl) ?_)
      refine Xg.ops_op (by kernel_rfl) (Xg.opx_pure ((Value.bool false)) rfl (fun _ => by kernel_rfl) ?_)
      refine Xg.ops_nil ?_
      refine Xg.at_false (t := false) (by kernel_rfl) rfl ?_
      refine Xg.at_skip ?_
      refine Xg.at_seq ?_
      refine Xg.at_draw [45] [(2, [0, 1, 2, 4, 5, 6, 7, 8, 9, 10, 11, 12, 13, 14, 15, 16, 17, 18, 19, 20, 21, 22, 23, 24, 25, 26, 27, 28, 29, 30, 31, 32, 33, 34, 35, 36, 37, 38, 39, 40, 41, 42], (RdIs (1 : Nat) (Value.slice sa (19 : Nat) sc) (19 : Nat) (List.map (Value.int IntKind.u8) xs))), (3, [0, 1, 2, 3, 4, 5, 6, 7, 8, 9, 10, 11, 12, 13, 14, 15, 16, 17, 18, 19, 20, 21, 22, 23, 24, 25, 26, 27, 28, 29, 30, 31, 32, 33, 34, 35, 36, 37, 38, 39, 40, 41, 42], (RdIs (1 : Nat) (Value.slice sa (19 : Nat) sc) (19 : Nat) (List.map (Value.int IntKind.u8) xs))), (5, [0, 1, 2, 3, 4, 5, 7, 8, 9, 10, 11, 12, 13, 14, 15, 16, 17, 18, 19, 20, 21, 22, 23, 24, 25, 26, 27, 28, 29, 30, 31, 32, 33, 34, 35, 36, 37, 38, 39, 40, 41, 42], (RdIs (1 : Nat) (Value.slice sa (19 : Nat) sc) (19 : Nat) (List.map (Value.int IntKind.u8) xs))), (6, [0, 1, 2, 3, 4, 5, 6, 7, 8, 9, 10, 11, 12, 13, 14, 15, 16, 17, 18, 19, 20, 21, 22, 23, 24, 25, 26, 27, 28, 29, 30, 31, 32, 33, 34, 35, 36, 37, 38, 39, 40, 41, 42], (RdIs (1 : Nat) (Value.slice sa (19 : Nat) sc) (19 : Nat) (List.map (Value.int IntKind.u8) xs))), (8, [0, 1, 2, 3, 4, 5, 6, 7, 8, 10, 11, 12, 13, 14, 15, 16, 17, 18, 19, 20, 21, 22, 23, 24, 25, 26, 27, 28, 29, 30, 31, 32, 33, 34, 35, 36, 37, 38, 39, 40, 41, 42], (RdIs (1 : Nat) (Value.slice sa (19 : Nat) sc) (19 : Nat) (List.map (Value.int IntKind.u8) xs))), (9, [0, 1, 2, 3, 4, 5, 6, 7, 8, 9, 10, 11, 12, 13, 14, 15, 16, 17, 18, 19, 20, 21, 22, 23, 24, 25, 26, 27, 28, 29, 30, 31, 32, 33, 34, 35, 36, 37, 38, 39, 40, 41, 42], (RdIs (1 : Nat) (Value.slice sa (19 : Nat) sc) (19 : Nat) (List.map (Value.int IntKind.u8) xs))), (10, [0, 1, 2, 3, 4, 5, 6, 7, 8, 9, 10, 13, 14, 15, 16, 17, 18, 19, 20, 21, 22, 23, 24, 25, 26, 27, 28, 29, 30, 31, 32, 33, 34, 35, 36, 37, 38, 39, 40, 41, 42], (RdIs (1 : Nat) (Value.slice sa (19 : Nat) sc) (19 : Nat) (List.map (Value.int IntKind.u8) xs))), (11, [0, 1, 2, 3, 4, 5, 6, 7, 8, 9, 10, 11, 13, 14, 15, 16, 17, 18, 19, 20, 21, 22, 23, 24, 25, 26, 27, 28, 29, 30, 31, 32, 33, 34, 35, 36, 37, 38, 39, 40, 41, 42], (RdIs (1 : Nat) (Value.slice sa (19 : Nat) sc) (19 : Nat) (List.map (Value.int IntKind.u8) xs))), (12, [0, 1, 2, 3, 4, 5, 6, 7, 8, 9, 10, 11, 12, 13, 14, 15, 16, 17, 18, 19, 20, 21, 22, 23, 24, 25, 26, 27, 28, 29, 30, 31, 32, 33, 34, 35, 36, 37, 38, 39, 40, 41, 42], (RdIs (1 : Nat) (Value.slice sa (19 : Nat) sc) (19 : Nat) (List.map (Value.int IntKind.u8) xs))), (14, [0, 1, 2, 3, 4, 5, 6, 7, 8, 9, 10, 11, 12, 13, 14, 17, 18, 19, 20, 21, 23, 24, 25, 26, 27, 28, 29, 30, 31, 32, 33, 34, 35, 36, 37, 38, 39, 40, 41, 42], (RdIs (1 : Nat) (Value.slice sa (19 : Nat) sc) (19 : Nat) (List.map (Value.int IntKind.u8) xs))), (15, [0, 1, 2, 3, 4, 5, 6, 7, 8, 9, 10, 11, 12, 13, 14, 15, 17, 18, 19, 20, 21, 23, 24, 25, 26, 27, 28, 29, 30, 31, 32, 33, 34, 35, 36, 37, 38, 39, 40, 41, 42], (RdIs (1 : Nat) (Value.slice sa (19 : Nat) sc) (19 : Nat) (List.map (Value.int IntKind.u8) xs))), (18, [0, 1, 2, 3, 4, 5, 6, 7, 8, 9, 10, 11, 12, 13, 14, 15, 16, 17, 18, 23, 24, 25, 26, 27, 28, 29, 30, 31, 32, 33, 34, 35, 36, 37, 38, 39, 40, 41, 42], (RdIs (1 : Nat) (Value.slice sa (19 : Nat) sc) (19 : Nat) (List.map (Value.int IntKind.u8) xs))), (19, [0, 1, 2, 3, 4, 5, 6, 7, 8, 9, 10, 11, 12, 13, 14, 15, 16, 17, 18, 19, 23, 24, 25, 26, 27, 28, 29, 30, 31, 32, 33, 34, 35, 36, 37, 38, 39, 40, 41, 42], (RdIs (1 : Nat) (Value.slice sa (19 : Nat) sc) (19 : Nat) (List.map (Value.int IntKind.u8) xs))), (24, [0, 1, 2, 3, 4, 5, 6, 7, 8, 9, 10, 11, 12, 13, 14, 15, 16, 17, 18, 19, 20, 21, 22, 23, 24, 26, 27, 28, 29, 30, 31, 32, 33, 34, 35, 36, 37, 38, 39, 40, 41, 42], (RdIs (1 : Nat) (Value.slice sa (19 : Nat) sc) (19 : Nat) (List.map (Value.int IntKind.u8) xs))), (25, [0, 1, 2, 3, 4, 5, 6, 7, 8, 9, 10, 11, 12, 13, 14, 15, 16, 17, 18, 19, 20, 21, 22, 23, 24, 25, 26, 27, 28, 29, 30, 31, 32, 33, 34, 35, 36, 37, 38, 39, 40, 41, 42], (RdIs (1 : Nat) (Value.slice sa (19 : Nat) sc) (19 : Nat) (List.map (Value.int IntKind.u8) xs))), (27, [0, 1, 2, 3, 4, 5, 6, 7, 8, 9, 10, 11, 12, 13, 14, 15, 16, 17, 18, 19, 20, 21, 22, 23, 24, 25, 26, 27, 29, 30, 31, 32, 33, 34, 35, 36, 37, 38, 39, 40, 41, 42], (RdIs (1 : Nat) (Value.slice sa (19 : Nat) sc) (19 : Nat) (List.map (Value.int IntKind.u8) xs))), (28, [0, 1, 2, 3, 4, 5, 6, 7, 8, 9, 10, 11, 12, 13, 14, 15, 16, 17, 18, 19, 20, 21, 22, 23, 24, 25, 26, 27, 28, 29, 30, 31, 32, 33, 34, 35, 36, 37, 38, 39, 40, 41, 42], (RdIs (1 : Nat) (Value.slice sa (19 : Nat) sc) (19 : Nat) (List.map (Value.int IntKind.u8) xs))), (30, [0, 1, 2, 3, 4, 5, 6, 7, 8, 9, 10, 11, 12, 13, 14, 15, 16, 17, 18, 19, 20, 21, 22, 23, 24, 25, 26, 27, 28, 29, 30, 32, 33, 34, 35, 36, 37, 38, 39, 40, 41, 42], (RdIs (1 : Nat) (Value.slice sa (19 : Nat) sc) (19 : Nat) (List.map (Value.int IntKind.u8) xs))), (31, [0, 1, 2, 3, 4, 5, 6, 7, 8, 9, 10, 11, 12, 13, 14, 15, 16, 17, 18, 19, 20, 21, 22, 23, 24, 25, 26, 27, 28, 29, 30, 31, 32, 33, 34, 35, 36, 37, 38, 39, 40, 41, 42], (RdIs (1 : Nat) (Value.slice sa (19 : Nat) sc) (19 : Nat) (List.map (Value.int IntKind.u8) xs))), (33, [0, 1, 2, 3, 4, 5, 6, 7, 8, 9, 10, 11, 12, 13, 14, 15, 16, 17, 18, 19, 20, 21, 22, 23, 24, 25, 26, 27, 28, 29, 30, 31, 32, 33, 35, 36, 37, 38, 39, 40, 41, 42], (RdIs (1 : Nat) (Value.slice sa (19 : Nat) sc) (19 : Nat) (List.map (Value.int IntKind.u8) xs))), (34, [0, 1, 2, 3, 4, 5, 6, 7, 8, 9, 10, 11, 12, 13, 14, 15, 16, 17, 18, 19, 20, 21, 22, 23, 24, 25, 26, 27, 28, 29, 30, 31, 32, 33, 34, 35, 36, 37, 38, 39, 40, 41, 42], (RdIs (1 : Nat) (Value.slice sa (19 : Nat) sc) (19 : Nat) (List.map (Value.int IntKind.u8) xs))), (36, [0, 1, 2, 3, 4, 5, 6, 7, 8, 9, 10, 11, 12, 13, 14, 15, 16, 17, 18, 19, 20, 21, 22, 23, 24, 25, 26, 27, 28, 29, 30, 31, 32, 33, 34, 35, 36, 39, 40, 41, 42], (RdIs (1 : Nat) (Value.slice sa (19 : Nat) sc) (19 : Nat) (List.map (Value.int IntKind.u8) xs))), (37, [0, 1, 2, 3, 4, 5, 6, 7, 8, 9, 10, 11, 12, 13, 14, 15, 16, 17, 18, 19, 20, 21, 22, 23, 24, 25, 26, 27, 28, 29, 30, 31, 32, 33, 34, 35, 36, 37, 39, 40, 41, 42], (RdIs (1 : Nat) (Value.slice sa (19 : Nat) sc) (19 : Nat) (List.map (Value.int IntKind.u8) xs))), (41, [0, 1, 2, 3, 4, 5, 6, 7, 8, 9, 10, 11, 12, 13, 14, 15, 16, 17, 18, 19, 20, 21, 22, 23, 24, 25, 26, 27, 28, 29, 30, 31, 32, 33, 34, 35, 36, 37, 38, 39, 40, 41], (RdIs (1 : Nat) (Value.slice sa (19 : Nat) sc) (19 : Nat) (List.map (Value.int IntKind.u8) xs))), (42, [0, 1, 2, 3, 4, 5, 6, 7, 8, 9, 10, 11, 12, 13, 14, 15, 16, 17, 18, 19, 20, 21, 22, 23, 24, 25, 26, 27, 28, 29, 30, 31, 32, 33, 34, 35, 36, 37, 38, 39, 40, 41, 42], (RdIs (1 : Nat) (Value.slice sa (19 : Nat) sc) (19 : Nat) (List.map (Value.int IntKind.u8) xs)))] (by kernel_rfl) ?_
      refine Xg.any_pure ((Value.pointer (some (Addr.mk p (0 : Nat) none)))) 0 (by kernel_rfl) rfl (by kernel_rfl) (by kernel_rfl) (by kernel_rfl) (by kernel_rfl) rfl (fun _ => by kernel_rfl) ?_
      refine Xg.any_pure ((Value.slice sa (19 : Nat) sc)) 1 (by kernel_rfl) rfl (by kernel_rfl) (by kernel_rfl) (by kernel_rfl) (by kernel_rfl) rfl (fun _ => by kernel_rfl) ?_
      refine Xg.any_reads (.pointer (some (Addr.mk (Xg.blk sa) (offA sa + (0 : Nat)) none))) 2 0 (by kernel_rfl) rfl (by kernel_rfl) (by kernel_rfl) (by kernel_rfl) (by kernel_rfl) rfl rfl (by kernel_rfl) (Xg.rd_now 0 hr (by kernel_rfl)) (Xg.run_ix_rd (elem := 5) (kd := .i64) (e := ((0 : Int))) 1 ((0 : Nat)) (offA sa + (0 : Nat)) (by kernel_rfl) (by kernel_rfl) (by kernel_rfl) (by kernel_rfl) rfl (by omega) (by simp only [List.length_map]; omega) (by omega)) ?_
      refine Xg.any_reads (Value.int IntKind.u8 (xs.getD (0 : Nat) (0 : Int))) 3 1 (by kernel_rfl) rfl (by kernel_rfl) (by kernel_rfl) (by kernel_rfl) (by kernel_rfl) rfl rfl (by kernel_rfl) (Xg.rd_now 0 hr (by kernel_rfl)) (Xg.run_load_rd (off0 := (offA sa)) ((0 : Nat)) (by kernel_rfl) (by omega) (Xg.get_ints (by omega)) (by kernel_rfl)) ?_
      refine Xg.any_pure ((Value.slice sa (19 : Nat) sc)) 4 (by kernel_rfl) rfl (by kernel_rfl) (by kernel_rfl) (by kernel_rfl) (by kernel_rfl) rfl (fun _ => by kernel_rfl) ?_
      refine Xg.any_reads (.pointer (some (Addr.mk (Xg.blk sa) (offA sa + (1 : Nat)) none))) 5 2 (by kernel_rfl) rfl (by kernel_rfl) (by kernel_rfl) (by kernel_rfl) (by kernel_rfl) rfl rfl (by kernel_rfl) (Xg.rd_now 0 hr (by kernel_rfl)) (Xg.run_ix_rd (elem := 5) (kd := .i64) (e := ((1 : Int))) 1 ((1 : Nat)) (offA sa + (1 : Nat)) (by kernel_rfl) (by kernel_rfl) (by kernel_rfl) (by kernel_rfl) rfl (by omega) (by simp only [List.length_map]; omega) (by omega)) ?_
      refine Xg.any_reads (Value.int IntKind.u8 (xs.getD (1 : Nat) (0 : Int))) 6 3 (by kernel_rfl) rfl (by kernel_rfl) (by kernel_rfl) (by kernel_rfl) (by kernel_rfl) rfl rfl (by kernel_rfl) (Xg.rd_now 0 hr (by kernel_rfl)) (Xg.run_load_rd (off0 := (offA sa + (1 : Nat))) ((1 : Nat)) (by kernel_rfl) (by omega) (Xg.get_ints (by omega)) (by kernel_rfl)) ?_
      refine Xg.any_pure ((Value.slice sa (19 : Nat) sc)) 7 (by kernel_rfl) rfl (by kernel_rfl) (by kernel_rfl) (by kernel_rfl) (by kernel_rfl) rfl (fun _ => by kernel_rfl) ?_
      refine Xg.any_reads (.pointer (some (Addr.mk (Xg.blk sa) (offA sa + (2 : Nat)) none))) 8 4 (by kernel_rfl) rfl (by kernel_rfl) (by kernel_rfl) (by kernel_rfl) (by kernel_rfl) rfl rfl (by kernel_rfl) (Xg.rd_now 0 hr (by kernel_rfl)) (Xg.run_ix_rd (elem := 5) (kd := .i64) (e := ((2 : Int))) 1 ((2 : Nat)) (offA sa + (2 : Nat)) (by kernel_rfl) (by kernel_rfl) (by kernel_rfl) (by kernel_rfl) rfl (by omega) (by simp only [List.length_map]; omega) (by omega)) ?_
      refine Xg.any_reads (Value.int IntKind.u8 (xs.getD (2 : Nat) (0 : Int))) 9 5 (by kernel_rfl) rfl (by kernel_rfl) (by kernel_rfl) (by kernel_rfl) (by kernel_rfl) rfl rfl (by kernel_rfl) (Xg.rd_now 0 hr (by kernel_rfl)) (Xg.run_load_rd (off0 := (offA sa + (2 : Nat))) ((2 : Nat)) (by kernel_rfl) (by omega) (Xg.get_ints (by omega)) (by kernel_rfl)) ?_
      refine Xg.any_pure ((Value.slice sa (19 : Nat) sc)) 10 (by kernel_rfl) rfl (by kernel_rfl) (by kernel_rfl) (by kernel_rfl) (by kernel_rfl) rfl (fun _ => by kernel_rfl) ?_
      refine Xg.any_reads (.pointer (some (Addr.mk (Xg.blk sa) (offA sa + (3 : Nat)) none))) 11 7 (by kernel_rfl) rfl (by kernel_rfl) (by kernel_rfl) (by kernel_rfl) (by kernel_rfl) rfl rfl (by kernel_rfl) (Xg.rd_now 0 hr (by kernel_rfl)) (Xg.run_ix_rd (elem := 5) (kd := .i64) (e := ((3 : Int))) 1 ((3 : Nat)) (offA sa + (3 : Nat)) (by kernel_rfl) (by kernel_rfl) (by kernel_rfl) (by kernel_rfl) rfl (by omega) (by simp only [List.length_map]; omega) (by omega)) ?_
      refine Xg.any_reads (Value.int IntKind.u8 (xs.getD (3 : Nat) (0 : Int))) 12 8 (by kernel_rfl) rfl (by kernel_rfl) (by kernel_rfl) (by kernel_rfl) (by kernel_rfl) rfl rfl (by kernel_rfl) (Xg.rd_now 0 hr (by kernel_rfl)) (Xg.run_load_rd (off0 := (offA sa + (3 : Nat))) ((3 : Nat)) (by kernel_rfl) (by omega) (Xg.get_ints (by omega)) (by kernel_rfl)) ?_
      refine Xg.any_pure ((Value.slice sa (19 : Nat) sc)) 13 (by kernel_rfl) rfl (by kernel_rfl) (by kernel_rfl) (by kernel_rfl) (by kernel_rfl) rfl (fun _ => by kernel_rfl) ?_
      refine Xg.any_reads (.pointer (some (Addr.mk (Xg.blk sa) (offA sa + (4 : Nat)) none))) 14 9 (by kernel_rfl) rfl (by kernel_rfl) (by kernel_rfl) (by kernel_rfl) (by kernel_rfl) rfl rfl (by kernel_rfl) (Xg.rd_now 0 hr (by kernel_rfl)) (Xg.run_ix_rd (elem := 5) (kd := .i64) (e := ((4 : Int))) 1 ((4 : Nat)) (offA sa + (4 : Nat)) (by kernel_rfl) (by kernel_rfl) (by kernel_rfl) (by kernel_rfl) rfl (by omega) (by simp only [List.length_map]; omega) (by omega)) ?_
      refine Xg.any_reads (Value.int IntKind.u8 (xs.getD (4 : Nat) (0 : Int))) 15 10 (by kernel_rfl) rfl (by kernel_rfl) (by kernel_rfl) (by kernel_rfl) (by kernel_rfl) rfl rfl (by kernel_rfl) (Xg.rd_now 0 hr (by kernel_rfl)) (Xg.run_load_rd (off0 := (offA sa + (4 : Nat))) ((4 : Nat)) (by kernel_rfl) (by omega) (Xg.get_ints (by omega)) (by kernel_rfl)) ?_
      refine Xg.any_int .u16 (IntKind.wrap .u16 ((xs.getD (4 : Nat) (0 : Int)))) 16 (by kernel_rfl) rfl (by kernel_rfl) (by kernel_rfl) (by kernel_rfl) (by kernel_rfl) rfl (fun _ => by kernel_rfl) (Xg.wrap_u16_in (by omega)) ?_
      refine Xg.any_pure ((Value.slice sa (19 : Nat) sc)) 17 (by kernel_rfl) rfl (by kernel_rfl) (by kernel_rfl) (by kernel_rfl) (by kernel_rfl) rfl (fun _ => by kernel_rfl) ?_
      refine Xg.any_reads (.pointer (some (Addr.mk (Xg.blk sa) (offA sa + (5 : Nat)) none))) 18 11 (by kernel_rfl) rfl (by kernel_rfl) (by kernel_rfl) (by kernel_rfl) (by kernel_rfl) rfl rfl (by kernel_rfl) (Xg.rd_now 0 hr (by kernel_rfl)) (Xg.run_ix_rd (elem := 5) (kd := .i64) (e := ((5 : Int))) 1 ((5 : Nat)) (offA sa + (5 : Nat)) (by kernel_rfl) (by kernel_rfl) (by kernel_rfl) (by kernel_rfl) rfl (by omega) (by simp only [List.length_map]; omega) (by omega)) ?_
      refine Xg.any_reads (Value.int IntKind.u8 (xs.getD (5 : Nat) (0 : Int))) 19 12 (by kernel_rfl) rfl (by kernel_rfl) (by kernel_rfl) (by kernel_rfl) (by kernel_rfl) rfl rfl (by kernel_rfl) (Xg.rd_now 0 hr (by kernel_rfl)) (Xg.run_load_rd (off0 := (offA sa + (5 : Nat))) ((5 : Nat)) (by kernel_rfl) (by omega) (Xg.get_ints (by omega)) (by kernel_rfl)) ?_
      refine Xg.any_int .u16 (IntKind.wrap .u16 ((xs.getD (5 : Nat) (0 : Int)))) 20 (by kernel_rfl) rfl (by kernel_rfl) (by kernel_rfl) (by kernel_rfl) (by kernel_rfl) rfl (fun _ => by kernel_rfl) (Xg.wrap_u16_in (by omega)) ?_
      refine Xg.any_int .u16 (IntKind.wrap .u16 ((xs.getD (5 : Nat) (0 : Int) * (256 : Int)))) 21 (by kernel_rfl) rfl (by kernel_rfl) (by kernel_rfl) (by kernel_rfl) (by kernel_rfl) rfl (fun _ => by kernel_rfl) (Xg.wrap_u16_in (by omega)) ?_
      refine Xg.any_pure (.int .u16 (Xg.bor .u16 ((xs.getD (4 : Nat) (0 : Int))) ((xs.getD (5 : Nat) (0 : Int) * (256 : Int))))) 22 (by kernel_rfl) rfl (by kernel_rfl) (by kernel_rfl) (by kernel_rfl) (by kernel_rfl) rfl (fun _ => by kernel_rfl) ?_
      refine Xg.any_pure ((Value.slice sa (19 : Nat) sc)) 23 (by kernel_rfl) rfl (by kernel_rfl) (by kernel_rfl) (by kernel_rfl) (by kernel_rfl) rfl (fun _ => by kernel_rfl) ?_
      refine Xg.any_reads (.pointer (some (Addr.mk (Xg.blk sa) (offA sa + (6 : Nat)) none))) 24 13 (by kernel_rfl) rfl (by kernel_rfl) (by kernel_rfl) (by kernel_rfl) (by kernel_rfl) rfl rfl (by kernel_rfl) (Xg.rd_now 0 hr (by kernel_rfl)) (Xg.run_ix_rd (elem := 5) (kd := .i64) (e := ((6 : Int))) 1 ((6 : Nat)) (offA sa + (6 : Nat)) (by kernel_rfl) (by kernel_rfl) (by kernel_rfl) (by kernel_rfl) rfl (by omega) (by simp only [List.length_map]; omega) (by omega)) ?_
      refine Xg.any_reads (Value.int IntKind.u8 (xs.getD (6 : Nat) (0 : Int))) 25 14 (by kernel_rfl) rfl (by kernel_rfl) (by kernel_rfl) (by kernel_rfl) (by kernel_rfl) rfl rfl (by kernel_rfl) (Xg.rd_now 0 hr (by kernel_rfl)) (Xg.run_load_rd (off0 := (offA sa + (6 : Nat))) ((6 : Nat)) (by kernel_rfl) (by omega) (Xg.get_ints (by omega)) (by kernel_rfl)) ?_
      refine Xg.any_pure ((Value.slice sa (19 : Nat) sc)) 26 (by kernel_rfl) rfl (by kernel_rfl) (by kernel_rfl) (by kernel_rfl) (by kernel_rfl) rfl (fun _ => by kernel_rfl) ?_
      refine Xg.any_reads (.pointer (some (Addr.mk (Xg.blk sa) (offA sa + (7 : Nat)) none))) 27 15 (by kernel_rfl) rfl (by kernel_rfl) (by kernel_rfl) (by kernel_rfl) (by kernel_rfl) rfl rfl (by kernel_rfl) (Xg.rd_now 0 hr (by kernel_rfl)) (Xg.run_ix_rd (elem := 5) (kd := .i64) (e := ((7 : Int))) 1 ((7 : Nat)) (offA sa + (7 : Nat)) (by kernel_rfl) (by kernel_rfl) (by kernel_rfl) (by kernel_rfl) rfl (by omega) (by simp only [List.length_map]; omega) (by omega)) ?_
      refine Xg.any_reads (Value.int IntKind.u8 (xs.getD (7 : Nat) (0 : Int))) 28 16 (by kernel_rfl) rfl (by kernel_rfl) (by kernel_rfl) (by kernel_rfl) (by kernel_rfl) rfl rfl (by kernel_rfl) (Xg.rd_now 0 hr (by kernel_rfl)) (Xg.run_load_rd (off0 := (offA sa + (7 : Nat))) ((7 : Nat)) (by kernel_rfl) (by omega) (Xg.get_ints (by omega)) (by kernel_rfl)) ?_
      refine Xg.any_pure ((Value.slice sa (19 : Nat) sc)) 29 (by kernel_rfl) rfl (by kernel_rfl) (by kernel_rfl) (by kernel_rfl) (by kernel_rfl) rfl (fun _ => by kernel_rfl) ?_
      refine Xg.any_reads (.pointer (some (Addr.mk (Xg.blk sa) (offA sa + (8 : Nat)) none))) 30 17 (by kernel_rfl) rfl (by kernel_rfl) (by kernel_rfl) (by kernel_rfl) (by kernel_rfl) rfl rfl (by kernel_rfl) (Xg.rd_now 0 hr (by kernel_rfl)) (Xg.run_ix_rd (elem := 5) (kd := .i64) (e := ((8 : Int))) 1 ((8 : Nat)) (offA sa + (8 : Nat)) (by kernel_rfl) (by kernel_rfl) (by kernel_rfl) (by kernel_rfl) rfl (by omega) (by simp only [List.length_map]; omega) (by omega)) ?_
      refine Xg.any_reads (Value.int IntKind.u8 (xs.getD (8 : Nat) (0 : Int))) 31 18 (by kernel_rfl) rfl (by kernel_rfl) (by kernel_rfl) (by kernel_rfl) (by kernel_rfl) rfl rfl (by kernel_rfl) (Xg.rd_now 0 hr (by kernel_rfl)) (Xg.run_load_rd (off0 := (offA sa + (8 : Nat))) ((8 : Nat)) (by kernel_rfl) (by omega) (Xg.get_ints (by omega)) (by kernel_rfl)) ?_
      refine Xg.any_pure ((Value.slice sa (19 : Nat) sc)) 32 (by kernel_rfl) rfl (by kernel_rfl) (by kernel_rfl) (by kernel_rfl) (by kernel_rfl) rfl (fun _ => by kernel_rfl) ?_
      refine Xg.any_reads (.pointer (some (Addr.mk (Xg.blk sa) (offA sa + (9 : Nat)) none))) 33 19 (by kernel_rfl) rfl (by kernel_rfl) (by kernel_rfl) (by kernel_rfl) (by kernel_rfl) rfl rfl (by kernel_rfl) (Xg.rd_now 0 hr (by kernel_rfl)) (Xg.run_ix_rd (elem := 5) (kd := .i64) (e := ((9 : Int))) 1 ((9 : Nat)) (offA sa + (9 : Nat)) (by kernel_rfl) (by kernel_rfl) (by kernel_rfl) (by kernel_rfl) rfl (by omega) (by simp only [List.length_map]; omega) (by omega)) ?_
      refine Xg.any_reads (Value.int IntKind.u8 (xs.getD (9 : Nat) (0 : Int))) 34 20 (by kernel_rfl) rfl (by kernel_rfl) (by kernel_rfl) (by kernel_rfl) (by kernel_rfl) rfl rfl (by kernel_rfl) (Xg.rd_now 0 hr (by kernel_rfl)) (Xg.run_load_rd (off0 := (offA sa + (9 : Nat))) ((9 : Nat)) (by kernel_rfl) (by omega) (Xg.get_ints (by omega)) (by kernel_rfl)) ?_
      refine Xg.any_pure ((Value.slice sa (19 : Nat) sc)) 35 (by kernel_rfl) rfl (by kernel_rfl) (by kernel_rfl) (by kernel_rfl) (by kernel_rfl) rfl (fun _ => by kernel_rfl) ?_
      refine Xg.any_reads (.pointer (some (Addr.mk (Xg.blk sa) (offA sa + (10 : Nat)) none))) 36 21 (by kernel_rfl) rfl (by kernel_rfl) (by kernel_rfl) (by kernel_rfl) (by kernel_rfl) rfl rfl (by kernel_rfl) (Xg.rd_now 0 hr (by kernel_rfl)) (Xg.run_ix_rd (elem := 5) (kd := .i64) (e := ((10 : Int))) 1 ((10 : Nat)) (offA sa + (10 : Nat)) (by kernel_rfl) (by kernel_rfl) (by kernel_rfl) (by kernel_rfl) rfl (by omega) (by simp only [List.length_map]; omega) (by omega)) ?_
      refine Xg.any_reads (Value.int IntKind.u8 (xs.getD (10 : Nat) (0 : Int))) 37 22 (by kernel_rfl) rfl (by kernel_rfl) (by kernel_rfl) (by kernel_rfl) (by kernel_rfl) rfl rfl (by kernel_rfl) (Xg.rd_now 0 hr (by kernel_rfl)) (Xg.run_load_rd (off0 := (offA sa + (10 : Nat))) ((10 : Nat)) (by kernel_rfl) (by omega) (Xg.get_ints (by omega)) (by kernel_rfl)) ?_
      refine Xg.any_int .i64 (IntKind.wrap .i64 ((xs.getD (10 : Nat) (0 : Int)))) 38 (by kernel_rfl) rfl (by kernel_rfl) (by kernel_rfl) (by kernel_rfl) (by kernel_rfl) rfl (fun _ => by kernel_rfl) (Xg.wrap_i64_in (by omega)) ?_
      refine Xg.any_pure ((Value.int IntKind.i64 (bor IntKind.i64 (xs.getD (11 : Nat) (0 : Int)) (xs.getD (12 : Nat) (0 : Int) * (256 : Int))))) 39 (by kernel_rfl) rfl (by kernel_rfl) (by kernel_rfl) (by kernel_rfl) (by kernel_rfl) rfl (fun _ => by kernel_rfl) ?_
      refine Xg.any_pure ((Value.slice sa (19 : Nat) sc)) 40 (by kernel_rfl) rfl (by kernel_rfl) (by kernel_rfl) (by kernel_rfl) (by kernel_rfl) rfl (fun _ => by kernel_rfl) ?_
      refine Xg.any_reads (.pointer (some (Addr.mk (Xg.blk sa) (offA sa + (13 : Nat)) none))) 41 23 (by kernel_rfl) rfl (by kernel_rfl) (by kernel_rfl) (by kernel_rfl) (by kernel_rfl) rfl rfl (by kernel_rfl) (Xg.rd_now 0 hr (by kernel_rfl)) (Xg.run_ix_rd (elem := 5) (kd := .i64) (e := ((13 : Int))) 1 ((13 : Nat)) (offA sa + (13 : Nat)) (by kernel_rfl) (by kernel_rfl) (by kernel_rfl) (by kernel_rfl) rfl (by omega) (by simp only [List.length_map]; omega) (by omega)) ?_
      refine Xg.any_reads (Value.int IntKind.u8 (xs.getD (13 : Nat) (0 : Int))) 42 24 (by kernel_rfl) rfl (by kernel_rfl) (by kernel_rfl) (by kernel_rfl) (by kernel_rfl) rfl rfl (by kernel_rfl) (Xg.rd_now 0 hr (by kernel_rfl)) (Xg.run_load_rd (off0 := (offA sa + (13 : Nat))) ((13 : Nat)) (by kernel_rfl) (by omega) (Xg.get_ints (by omega)) (by kernel_rfl)) ?_
      refine Xg.any_pure ((Value.agg #[Value.int IntKind.u8 (xs.getD (0 : Nat) (0 : Int)), Value.int IntKind.u8 (xs.getD (1 : Nat) (0 : Int)), Value.int IntKind.u8 (xs.getD (2 : Nat) (0 : Int)), Value.int IntKind.u8 (xs.getD (3 : Nat) (0 : Int)), Value.int IntKind.u16 (bor IntKind.u16 (xs.getD (4 : Nat) (0 : Int)) (xs.getD (5 : Nat) (0 : Int) * (256 : Int))), Value.int IntKind.u8 (xs.getD (6 : Nat) (0 : Int)), Value.int IntKind.u8 (xs.getD (7 : Nat) (0 : Int)), Value.int IntKind.u8 (xs.getD (8 : Nat) (0 : Int)), Value.int IntKind.u8 (xs.getD (9 : Nat) (0 : Int)), Value.int IntKind.i64 (xs.getD (10 : Nat) (0 : Int)), Value.int IntKind.i64 (bor IntKind.i64 (xs.getD (11 : Nat) (0 : Int)) (xs.getD (12 : Nat) (0 : Int) * (256 : Int))), Value.int IntKind.u8 (xs.getD (13 : Nat) (0 : Int)), Value.slice none (0 : Nat) (0 : Nat)])) 43 (by kernel_rfl) rfl (by kernel_rfl) (by kernel_rfl) (by kernel_rfl) (by kernel_rfl) rfl (fun _ => by kernel_rfl) ?_
      refine Xg.any_pure ((Value.pointer (some (Addr.mk p (0 : Nat) none)))) 44 (by kernel_rfl) rfl (by kernel_rfl) (by kernel_rfl) (by kernel_rfl) (by kernel_rfl) rfl (fun _ => by kernel_rfl) ?_
      refine Xg.any_each [45] (by kernel_rfl) rfl ⟨?_, trivial⟩
      refine Xg.comes_act rfl (by kernel_rfl) (by kernel_rfl) (Xg.opx_storen 13 (off := 0) 1 [Value.int IntKind.u8 (xs.getD (0 : Nat) (0 : Int)), Value.int IntKind.u8 (xs.getD (1 : Nat) (0 : Int)), Value.int IntKind.u8 (xs.getD (2 : Nat) (0 : Int)), Value.int IntKind.u8 (xs.getD (3 : Nat) (0 : Int)), Value.int IntKind.u16 (bor IntKind.u16 (xs.getD (4 : Nat) (0 : Int)) (xs.getD (5 : Nat) (0 : Int) * (256 : Int))), Value.int IntKind.u8 (xs.getD (6 : Nat) (0 : Int)), Value.int IntKind.u8 (xs.getD (7 : Nat) (0 : Int)), Value.int IntKind.u8 (xs.getD (8 : Nat) (0 : Int)), Value.int IntKind.u8 (xs.getD (9 : Nat) (0 : Int)), Value.int IntKind.i64 (xs.getD (10 : Nat) (0 : Int)), Value.int IntKind.i64 (bor IntKind.i64 (xs.getD (11 : Nat) (0 : Int)) (xs.getD (12 : Nat) (0 : Int) * (256 : Int))), Value.int IntKind.u8 (xs.getD (13 : Nat) (0 : Int)), Value.slice none (0 : Nat) (0 : Nat)] (by kernel_rfl) rfl (by kernel_rfl) (by kernel_rfl) rfl (by kernel_rfl) (Nat.le_of_ble_eq_true (by kernel_rfl)) ?_)
      refine Xg.acts (Xg.owes_skip (by kernel_rfl) (Xg.owes_skip (by kernel_rfl) (Xg.owes_skip (by kernel_rfl) (Xg.owes_skip (by kernel_rfl) (Xg.owes_skip (by kernel_rfl) (Xg.owes_skip (by kernel_rfl) (Xg.owes_skip (by kernel_rfl) (Xg.owes_skip (by kernel_rfl) (Xg.owes_skip (by kernel_rfl) (Xg.owes_skip (by kernel_rfl) (Xg.owes_skip (by kernel_rfl) (Xg.owes_skip (by kernel_rfl) (Xg.owes_skip (by kernel_rfl) (Xg.owes_skip (by kernel_rfl) (Xg.owes_skip (by kernel_rfl) (Xg.owes_skip (by kernel_rfl) (Xg.owes_skip (by kernel_rfl) (Xg.owes_skip (by kernel_rfl) (Xg.owes_skip (by kernel_rfl) (Xg.owes_skip (by kernel_rfl) (Xg.owes_skip (by kernel_rfl) (Xg.owes_skip (by kernel_rfl) (Xg.owes_skip (by kernel_rfl) (Xg.owes_skip (by kernel_rfl) (Xg.owes_skip (by kernel_rfl) Xg.owes_nil))))))))))))))))))))))))) ?_
      refine Xg.any_nil (by kernel_rfl) ?_
      refine Xg.at_seq ?_
      refine Xg.at_region ?_
      refine Xg.ops_op (by kernel_rfl) (Xg.opx_pure ((Value.int IntKind.i64 (0 : Int))) rfl (fun _ => by kernel_rfl) ?_)
      refine Xg.ops_nil ?_
      refine Xg.at_ret_ps (v := (Value.int IntKind.i64 (0 : Int))) [1, 0] [row p (60 : TypeId) [Value.int IntKind.u8 (xs.getD (0 : Nat) (0 : Int)), Value.int IntKind.u8 (xs.getD (1 : Nat) (0 : Int)), Value.int IntKind.u8 (xs.getD (2 : Nat) (0 : Int)), Value.int IntKind.u8 (xs.getD (3 : Nat) (0 : Int)), Value.int IntKind.u16 (bor IntKind.u16 (xs.getD (4 : Nat) (0 : Int)) (xs.getD (5 : Nat) (0 : Int) * (256 : Int))), Value.int IntKind.u8 (xs.getD (6 : Nat) (0 : Int)), Value.int IntKind.u8 (xs.getD (7 : Nat) (0 : Int)), Value.int IntKind.u8 (xs.getD (8 : Nat) (0 : Int)), Value.int IntKind.u8 (xs.getD (9 : Nat) (0 : Int)), Value.int IntKind.i64 (xs.getD (10 : Nat) (0 : Int)), Value.int IntKind.i64 (bor IntKind.i64 (xs.getD (11 : Nat) (0 : Int)) (xs.getD (12 : Nat) (0 : Int) * (256 : Int))), Value.int IntKind.u8 (xs.getD (13 : Nat) (0 : Int)), Value.slice none (0 : Nat) (0 : Nat)], A] Go.Proofs.Tryd.func24 (fun _ => by kernel_rfl) (by kernel_rfl) (by kernel_rfl) ?_
      exact ⟨by kernel_rfl, by kernel_rfl⟩)

end Go.Proofs.YtncdmccdclhokaaDoor
