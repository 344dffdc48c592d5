/- The ports' laws: buttons, rows 0. -/
import Derived.Test.YtncdmccdclhokaaDoorKP17
namespace Go.Proofs.YtncdmccdclhokaaDoor
open Go.Sl Go.Xg
set_option linter.unusedVariables false
set_option linter.unusedSimpArgs false
set_option maxHeartbeats 4000000
set_option maxRecDepth 100000
variable {te : TypeId}

set_option maxHeartbeats 0 in
theorem keysL_0 (A : HP) (la : Option Addr) (n lc : Nat) (l : List Act) (hn : l.length = n) (hn2 : n ≤ maxLen) (hr : Reads A 3 (.slice la n lc) n (recs actC l)) (hl : ∀ i, i < n → (l.getD i default).ok)
    (v : Int) (hv : i64ok v) (v2 : Int) (hv2 : i64ok v2) (v3 : Int) (hv3 : i64ok v3) (hkk : pickN v 4 = 0) :
    Does Tryd.prog 4 [.slice la n lc, .int .i64 v, .int .i64 v2, .int .i64 v3] [(Drv te), A] (Ret (.bool true) [(Drv te), A]) := by
  obtain ⟨σ, xs, he, hσ, hxl⟩ := made_ok l (min n 200)
  have hm := made_f (te := te) A la n lc l hn hn2 hr hl σ xs he
  clear he hr hl
  have hk : 0 < 4 := by omega
  have hpk : Does Tryd.prog 14 [.int .i64 v, .int .i64 4] [] (Ret (.int .i64 0) []) := pick_f v 4 hv (by omega) 0 hkk
  have hwr : ∀ p (σ : Po), σ.Wf → ∀ s, Does Tryd.prog 15 [pt p, .int .i64 65280, .int .i64 0] [PoR p σ s, (Drv te)] (RetE (fun x : Po => x.rows = 0 ∧ x.Wf) (fun _ => .int .i64 0) (fun x => [PoR p x s, (Drv te)])) :=
    fun p σ hσ s => write_0K p σ hσ s 0 hk
  obtain ⟨a, haa⟩ : ∃ N, pickN v2 256 = N := ⟨_, rfl⟩
  have ha : a < 256 := haa ▸ pickN_lt v2 256 (by omega)
  have hpa := pick_f v2 256 hv2 (by omega) a haa
  obtain ⟨b, hbb⟩ : ∃ N, pickN v3 256 = N := ⟨_, rfl⟩
  have hb : b < 256 := hbb ▸ pickN_lt v3 256 (by omega)
  have hpb := pick_f v3 256 hv3 (by omega) b hbb
  clear hkk haa hbb
  (focus
    refine Xg.spec_of Go.Proofs.Tryd.func4 rfl Go.Proofs.Tryd.ntmps4 fun g F => ?_)
  (focus
    refine Xg.at_seq ?_
    refine Xg.at_region ?_
    refine Xg.ops_op (by kernel_rfl) (Xg.opx_pure ((Value.bool false)) rfl (fun _ => by kernel_rfl) ?_)
    refine Xg.ops_nil ?_
    refine Xg.at_seq ?_
    refine Xg.at_region ?_
    refine Xg.ops_op (by kernel_rfl) (Xg.opx_pure ((Value.slice la n lc)) rfl (fun _ => by kernel_rfl) ?_)
    refine Xg.ops_op (by kernel_rfl) (Xg.opx_callE' [0, 1] (fun xx1 => [PoS xx1.fst σ xx1.snd.fst xx1.snd.snd xs, bts xx1.snd.fst xx1.snd.snd xs, Drv te, A]) (fun _ => by kernel_rfl) (@hm ) (by kernel_rfl) (by kernel_rfl) (by kernel_rfl) fun xx1 xh1 => ?_)
    try dsimp only at xh1
    refine Xg.ops_op (by kernel_rfl) (Xg.opx_pure ((Value.pointer (some (Addr.mk xx1.fst (0 : Nat) none)))) rfl (fun _ => by kernel_rfl) ?_)
    refine Xg.ops_nil ?_
    refine Xg.at_seq ?_
    refine Xg.at_seq ?_
    refine Xg.at_region ?_
    refine Xg.ops_op (by kernel_rfl) (Xg.opx_pure ((Value.pointer (some (Addr.mk xx1.fst (0 : Nat) none)))) rfl (fun _ => by kernel_rfl) ?_)
    refine Xg.ops_op (by kernel_rfl) (Xg.opx_pure ((Value.bool false)) rfl (fun _ => by kernel_rfl) ?_)
    refine Xg.ops_nil ?_
    refine Xg.at_false (t := false) (by kernel_rfl) rfl ?_
    refine Xg.at_skip ?_
    refine Xg.at_seq ?_
    refine Xg.at_region ?_
    refine Xg.ops_op (by kernel_rfl) (Xg.opx_pure ((Value.int IntKind.i64 v)) rfl (fun _ => by kernel_rfl) ?_)
    refine Xg.ops_op (by kernel_rfl) (Xg.opx_call1' [] [PoS xx1.fst σ xx1.snd.fst xx1.snd.snd xs, bts xx1.snd.fst xx1.snd.snd xs, Drv te, A] (fun _ => by kernel_rfl) (@hpk ) (by kernel_rfl) (by kernel_rfl) (by kernel_rfl) ?_)
    refine Xg.ops_op (by kernel_rfl) (Xg.opx_pure ((Value.int IntKind.i64 (0 : Int))) rfl (fun _ => by kernel_rfl) ?_)
    refine Xg.ops_op (by kernel_rfl) (Xg.opx_pure ((Value.int IntKind.i64 (0 : Int))) rfl (fun _ => by kernel_rfl) ?_)
    refine Xg.ops_nil ?_
    refine Xg.at_seq ?_
    refine Xg.at_region ?_
    refine Xg.ops_op (by kernel_rfl) (Xg.opx_pure ((Value.int IntKind.i64 v2)) rfl (fun _ => by kernel_rfl) ?_)
    refine Xg.ops_op (by kernel_rfl) (Xg.opx_call1' [] [PoS xx1.fst σ xx1.snd.fst xx1.snd.snd xs, bts xx1.snd.fst xx1.snd.snd xs, Drv te, A] (fun _ => by kernel_rfl) (@hpa ) (by kernel_rfl) (by kernel_rfl) (by kernel_rfl) ?_)
    refine Xg.ops_op (by kernel_rfl) (Xg.opx_pure ((Value.int IntKind.i64 (↑a : Int))) rfl (fun _ => by kernel_rfl) ?_)
    refine Xg.ops_nil ?_
    refine Xg.at_seq ?_
    refine Xg.at_region ?_
    refine Xg.ops_op (by kernel_rfl) (Xg.opx_pure ((Value.int IntKind.i64 v3)) rfl (fun _ => by kernel_rfl) ?_)
    refine Xg.ops_op (by kernel_rfl) (Xg.opx_call1' [] [PoS xx1.fst σ xx1.snd.fst xx1.snd.snd xs, bts xx1.snd.fst xx1.snd.snd xs, Drv te, A] (fun _ => by kernel_rfl) (@hpb ) (by kernel_rfl) (by kernel_rfl) (by kernel_rfl) ?_)
    refine Xg.ops_op (by kernel_rfl) (Xg.opx_pure ((Value.int IntKind.i64 (↑b : Int))) rfl (fun _ => by kernel_rfl) ?_)
    refine Xg.ops_nil ?_
    refine Xg.at_seq ?_
    refine Xg.at_region ?_
    refine Xg.ops_op (by kernel_rfl) (Xg.opx_pure ((Value.pointer (some (Addr.mk xx1.fst (0 : Nat) none)))) rfl (fun _ => by kernel_rfl) ?_)
    refine Xg.ops_op (by kernel_rfl) (Xg.opx_pure ((Value.int IntKind.i64 (0 : Int))) rfl (fun _ => by kernel_rfl) ?_)
    refine Xg.ops_op (by kernel_rfl) (Xg.opx_callE' [0, 2] (fun xx2 => [PoR xx1.fst xx2 (Value.slice xx1.snd.fst xs.length xx1.snd.snd), Drv te, bts xx1.snd.fst xx1.snd.snd xs, A]) (fun _ => by kernel_rfl) (@hwr (xx1.fst) (σ) (by omega) ((Value.slice xx1.snd.fst xs.length xx1.snd.snd))) (by kernel_rfl) (by kernel_rfl) (by kernel_rfl) fun xx2 xh2 => ?_)
    try dsimp only at xh2
    obtain ⟨xh2_0, xh2_1⟩ := xh2
    refine Xg.ops_op (by kernel_rfl) (Xg.opx_pure ((Value.int IntKind.i64 (0 : Int))) rfl (fun _ => by kernel_rfl) ?_)
    refine Xg.ops_nil ?_
    refine Xg.at_seq ?_
    refine Xg.at_region ?_
    refine Xg.ops_op (by kernel_rfl) (Xg.opx_pure ((Value.pointer (some (Addr.mk xx1.fst (0 : Nat) none)))) rfl (fun _ => by kernel_rfl) ?_)
    refine Xg.ops_op (by kernel_rfl) (Xg.opx_pure ((Value.int IntKind.i64 (↑a : Int))) rfl (fun _ => by kernel_rfl) ?_)
    refine Xg.ops_op (by kernel_rfl) (Xg.opx_callE' [0] (fun xx3 => [PoR xx1.fst xx3 (Value.slice xx1.snd.fst xs.length xx1.snd.snd), Drv te, bts xx1.snd.fst xx1.snd.snd xs, A]) (fun _ => by kernel_rfl) (@Go.Proofs.YtncdmccdclhokaaDoor.press_K (xx1.fst) (xx2) (by omega) ((Value.slice xx1.snd.fst xs.length xx1.snd.snd)) (a) (by omega)) (by kernel_rfl) (by kernel_rfl) (by kernel_rfl) fun xx3 xh3 => ?_)
    try dsimp only at xh3
    obtain ⟨xh3_0, xh3_1, xh3_2, xh3_3, xh3_4, xh3_5⟩ := xh3
    refine Xg.ops_op (by kernel_rfl) (Xg.opx_pure ((Value.int IntKind.i64 (0 : Int))) rfl (fun _ => by kernel_rfl) ?_)
    refine Xg.ops_nil ?_
    refine Xg.at_seq ?_
    refine Xg.at_region ?_
    refine Xg.ops_op (by kernel_rfl) (Xg.opx_pure ((Value.pointer (some (Addr.mk xx1.fst (0 : Nat) none)))) rfl (fun _ => by kernel_rfl) ?_)
    refine Xg.ops_op (by kernel_rfl) (Xg.opx_callE' [0] (fun xx4 => [PoR xx1.fst xx3 (Value.slice xx1.snd.fst xs.length xx1.snd.snd), Drv te, bts xx1.snd.fst xx1.snd.snd xs, A]) (fun _ => by kernel_rfl) (@Go.Proofs.YtncdmccdclhokaaDoor.read_0K (xx1.fst) (xx3) (by omega) ((Value.slice xx1.snd.fst xs.length xx1.snd.snd))) (by kernel_rfl) (by kernel_rfl) (by kernel_rfl) fun xx4 xh4 => ?_)
    try dsimp only at xh4
    refine Xg.ops_op (by kernel_rfl) (Xg.opx_pure ((Value.tuple #[Value.int IntKind.i64 xx4, Value.int IntKind.i64 (0 : Int)])) rfl (fun _ => by kernel_rfl) ?_)
    refine Xg.ops_op (by kernel_rfl) (Xg.opx_pure ((Value.int IntKind.i64 xx4)) rfl (fun _ => by kernel_rfl) ?_)
    refine Xg.ops_op (by kernel_rfl) (Xg.opx_pure ((Value.int IntKind.i64 (0 : Int))) rfl (fun _ => by kernel_rfl) ?_)
    refine Xg.ops_op (by kernel_rfl) (Xg.opx_pure ((Value.int IntKind.i64 xx4)) rfl (fun _ => by kernel_rfl) ?_)
    refine Xg.ops_op (by kernel_rfl) (Xg.opx_pure ((Value.int IntKind.i64 (0 : Int))) rfl (fun _ => by kernel_rfl) ?_)
    refine Xg.ops_nil ?_
    refine Xg.at_seq ?_
    refine Xg.at_region ?_
    refine Xg.ops_op (by kernel_rfl) (Xg.opx_pure ((Value.pointer (some (Addr.mk xx1.fst (0 : Nat) none)))) rfl (fun _ => by kernel_rfl) ?_)
    refine Xg.ops_op (by kernel_rfl) (Xg.opx_callE' [0] (fun xx5 => [PoR xx1.fst xx5 (Value.slice xx1.snd.fst xs.length xx1.snd.snd), Drv te, bts xx1.snd.fst xx1.snd.snd xs, A]) (fun _ => by kernel_rfl) (@Go.Proofs.YtncdmccdclhokaaDoor.take_4E (xx1.fst) (xx3) (by omega) ((Value.slice xx1.snd.fst xs.length xx1.snd.snd))) (by kernel_rfl) (by kernel_rfl) (by kernel_rfl) fun xx5 xh5 => ?_)
    try dsimp only at xh5
    obtain ⟨xh5_0, xh5_1⟩ := xh5
    refine Xg.ops_op (by kernel_rfl) (Xg.opx_pure ((Value.int IntKind.i64 (0 : Int))) rfl (fun _ => by kernel_rfl) ?_)
    refine Xg.ops_nil ?_
    refine Xg.at_seq ?_
    refine Xg.at_region ?_
    refine Xg.ops_op (by kernel_rfl) (Xg.opx_pure ((Value.pointer (some (Addr.mk xx1.fst (0 : Nat) none)))) rfl (fun _ => by kernel_rfl) ?_)
    refine Xg.ops_op (by kernel_rfl) (Xg.opx_pure ((Value.int IntKind.i64 (↑b : Int))) rfl (fun _ => by kernel_rfl) ?_)
    refine Xg.ops_op (by kernel_rfl) (Xg.opx_callE' [0] (fun xx6 => [PoR xx1.fst xx6 (Value.slice xx1.snd.fst xs.length xx1.snd.snd), Drv te, bts xx1.snd.fst xx1.snd.snd xs, A]) (fun _ => by kernel_rfl) (@Go.Proofs.YtncdmccdclhokaaDoor.press_K (xx1.fst) (xx5) (by omega) ((Value.slice xx1.snd.fst xs.length xx1.snd.snd)) (b) (by omega)) (by kernel_rfl) (by kernel_rfl) (by kernel_rfl) fun xx6 xh6 => ?_)
    try dsimp only at xh6
    obtain ⟨xh6_0, xh6_1, xh6_2, xh6_3, xh6_4, xh6_5⟩ := xh6
    refine Xg.ops_op (by kernel_rfl) (Xg.opx_pure ((Value.int IntKind.i64 (0 : Int))) rfl (fun _ => by kernel_rfl) ?_)
    refine Xg.ops_nil ?_
    refine Xg.at_seq ?_
    refine Xg.at_region ?_
    refine Xg.ops_op (by kernel_rfl) (Xg.opx_pure ((Value.pointer (some (Addr.mk xx1.fst (0 : Nat) none)))) rfl (fun _ => by kernel_rfl) ?_)
    refine Xg.ops_op (by kernel_rfl) (Xg.opx_callE' [0] (fun xx7 => [PoR xx1.fst xx6 (Value.slice xx1.snd.fst xs.length xx1.snd.snd), Drv te, bts xx1.snd.fst xx1.snd.snd xs, A]) (fun _ => by kernel_rfl) (@Go.Proofs.YtncdmccdclhokaaDoor.read_0K (xx1.fst) (xx6) (by omega) ((Value.slice xx1.snd.fst xs.length xx1.snd.snd))) (by kernel_rfl) (by kernel_rfl) (by kernel_rfl) fun xx7 xh7 => ?_)
    try dsimp only at xh7
    refine Xg.ops_op (by kernel_rfl) (Xg.opx_pure ((Value.tuple #[Value.int IntKind.i64 xx7, Value.int IntKind.i64 (0 : Int)])) rfl (fun _ => by kernel_rfl) ?_)
    refine Xg.ops_op (by kernel_rfl) (Xg.opx_pure ((Value.int IntKind.i64 xx7)) rfl (fun _ => by kernel_rfl) ?_)
    refine Xg.ops_op (by kernel_rfl) (Xg.opx_pure ((Value.int IntKind.i64 (0 : Int))) rfl (fun _ => by kernel_rfl) ?_)
    refine Xg.ops_op (by kernel_rfl) (Xg.opx_pure ((Value.int IntKind.i64 xx7)) rfl (fun _ => by kernel_rfl) ?_)
    refine Xg.ops_op (by kernel_rfl) (Xg.opx_pure ((Value.int IntKind.i64 (0 : Int))) rfl (fun _ => by kernel_rfl) ?_)
    refine Xg.ops_nil ?_
    refine Xg.at_seq ?_
    refine Xg.at_seq ?_
    refine Xg.at_region ?_
    refine Xg.ops_op (by kernel_rfl) (Xg.opx_pure ((Value.int IntKind.i64 (0 : Int))) rfl (fun _ => by kernel_rfl) ?_)
    refine Xg.ops_op (by kernel_rfl) (Xg.opx_pure ((Value.bool false)) rfl (fun _ => by kernel_rfl) ?_)
    refine Xg.ops_op (by kernel_rfl) (Xg.opx_pure ((Value.bool false)) rfl (fun _ => by kernel_rfl) ?_)
    refine Xg.ops_op (by kernel_rfl) (Xg.opx_pure ((Value.int IntKind.i64 (0 : Int))) rfl (fun _ => by kernel_rfl) ?_)
    refine Xg.ops_op (by kernel_rfl) (Xg.opx_pure ((Value.bool false)) rfl (fun _ => by kernel_rfl) ?_)
    refine Xg.ops_op (by kernel_rfl) (Xg.opx_pure ((Value.bool false)) rfl (fun _ => by kernel_rfl) ?_)
    refine Xg.ops_op (by kernel_rfl) (Xg.opx_pure ((Value.bool false)) rfl (fun _ => by kernel_rfl) ?_)
    refine Xg.ops_op (by kernel_rfl) (Xg.opx_pure ((Value.int IntKind.i64 (0 : Int))) rfl (fun _ => by kernel_rfl) ?_)
    refine Xg.ops_op (by kernel_rfl) (Xg.opx_pure ((Value.bool false)) rfl (fun _ => by kernel_rfl) ?_)
    refine Xg.ops_op (by kernel_rfl) (Xg.opx_pure ((Value.bool false)) rfl (fun _ => by kernel_rfl) ?_)
    refine Xg.ops_op (by kernel_rfl) (Xg.opx_pure ((Value.bool false)) rfl (fun _ => by kernel_rfl) ?_)
    refine Xg.ops_op (by kernel_rfl) (Xg.opx_pure ((Value.int IntKind.i64 (0 : Int))) rfl (fun _ => by kernel_rfl) ?_)
    refine Xg.ops_op (by kernel_rfl) (Xg.opx_pure ((Value.bool false)) rfl (fun _ => by kernel_rfl) ?_)
    refine Xg.ops_op (by kernel_rfl) (Xg.opx_pure ((Value.bool false)) rfl (fun _ => by kernel_rfl) ?_)
    refine Xg.ops_op (by kernel_rfl) (Xg.opx_pure ((Value.bool false)) rfl (fun _ => by kernel_rfl) ?_)
    refine Xg.ops_op (by kernel_rfl) (Xg.opx_pure ((Value.int IntKind.i64 (0 : Int))) rfl (fun _ => by kernel_rfl) ?_)
    refine Xg.ops_op (by kernel_rfl) (Xg.opx_pure ((Value.bool false)) rfl (fun _ => by kernel_rfl) ?_)
    refine Xg.ops_op (by kernel_rfl) (Xg.opx_pure ((Value.bool false)) rfl (fun _ => by kernel_rfl) ?_)
    refine Xg.ops_op (by kernel_rfl) (Xg.opx_pure ((Value.bool false)) rfl (fun _ => by kernel_rfl) ?_)
    refine Xg.ops_op (by kernel_rfl) (Xg.opx_pure ((Value.int IntKind.i64 (0 : Int))) rfl (fun _ => by kernel_rfl) ?_)
    refine Xg.ops_op (by kernel_rfl) (Xg.opx_pure ((Value.bool false)) rfl (fun _ => by kernel_rfl) ?_)
    refine Xg.ops_op (by kernel_rfl) (Xg.opx_pure ((Value.bool false)) rfl (fun _ => by kernel_rfl) ?_)
    refine Xg.ops_nil ?_
    refine Xg.at_false (t := false) (by kernel_rfl) rfl ?_
    refine Xg.at_skip ?_
    refine Xg.at_seq ?_
    refine Xg.at_region ?_
    refine Xg.ops_op (by kernel_rfl) (Xg.opx_pure ((Value.bool false)) rfl (fun _ => by kernel_rfl) ?_)
    refine Xg.ops_nil ?_
    refine Xg.at_seq ?_
    refine Xg.at_seq ?_
    refine Xg.at_region ?_
    refine Xg.ops_op (by kernel_rfl) (Xg.opx_pure ((Value.int IntKind.i64 (0 : Int))) rfl (fun _ => by kernel_rfl) ?_)
    refine Xg.ops_nil ?_
    refine Xg.at_block ?_)
  obtain ⟨X, hX0, hX1, hX2, hXb⟩ := rd0_law hk ha (σ := xx3) (xh3_2.trans xh2_0) xh3_1
  obtain ⟨Y, hY0, hY1, hY2, hYb⟩ := rd0_law hk hb (σ := xx6) (by rw [xh6_2, xh5_0]; exact xh3_2.trans xh2_0) xh6_1
  obtain rfl : xx4 = X := xh4.trans hX0
  obtain rfl : xx7 = Y := xh7.trans hY0
  have hreq : 0 ≤ xx6.requests ∧ xx6.requests ≤ 31 := ⟨xh6_4, xh6_5⟩
  have hq : band .i64 xx6.requests 16 = if fellN 0 a b 4 then 16 else 0 := by
    have hl := fell_law hk ha hb
    have h5r : xx5.rows = 16 * ((0 : Nat) : Int) := by rw [xh5_0]; exact xh3_2.trans xh2_0
    have h5b : xx5.buttons = (a : Nat) := by rw [xh5_0]; exact xh3_1
    have h5q : band .i64 xx5.requests 16 = 0 := by rw [xh5_0]; exact b4_take xh3_3.requests
    rw [xh6_0]
    unfold pressed
    dsimp only
    rw [h5r, h5b]
    by_cases hz : bclr .u8 (keysI (a : Nat) (16 * ((0 : Nat) : Int))) (keysI (b : Nat) (16 * ((0 : Nat) : Int))) = 0
    · rw [if_pos hz, hl.1 hz]; simpa using h5q
    · rw [if_neg hz]
      have : fellN 0 a b 4 = true := by cases hx : fellN 0 a b 4 with
        | true => rfl
        | false => exact absurd (hl.2 hx) hz
      rw [this]
      simpa using b4_ask xh5_1.requests
  have h240 : ∀ X : Int, 192 + 16 * ((0 : Nat) : Int) ≤ X → X < 192 + 16 * ((0 : Nat) : Int) + 16 → band .i64 X 240 = 192 + 0 := fun X h1 h2 => by
    obtain ⟨q, hq⟩ := nat_of (x := X - (192 + 16 * ((0 : Nat) : Int))) (by omega)
    have := band240 ⟨0, hk⟩ ⟨q, by omega⟩
    dsimp only at this
    rw [show X = 192 + 16 * ((0 : Nat) : Int) + (q : Nat) from by omega, this]; rfl
  have hx240 := h240 _ hX1 hX2
  have hy240 := h240 _ hY1 hY2
  clear hm hpk hpa hpb xh6_0 xh5_0 h240 hwr hv hv2 hv3 hn2 hσ hxl
  (focus
    refine Xg.at_rounds_inv (α := (Nat × Bool) × (Nat → Value)) (fun x => ((fun x => x.1 ≤ 4 ∧ x.2 = fellN 0 a b x.1) : (Nat × Bool) → Prop) x.1) (fun x => ((fun x => 4 - x.1) : (Nat × Bool) → Nat) x.1) (fun x => Xg.headT [Value.slice la n lc, Value.int IntKind.i64 v, Value.int IntKind.i64 v2, Value.int IntKind.i64 v3, Value.tuple #[], Value.tuple #[], Value.tuple #[], Value.tuple #[], Value.bool false, Value.pointer (some (Addr.mk xx1.fst (0 : Nat) none)), Value.int IntKind.i64 (0 : Int), Value.int IntKind.i64 (↑a : Int), Value.int IntKind.i64 (↑b : Int), Value.int IntKind.i64 (0 : Int), Value.int IntKind.i64 (0 : Int), Value.int IntKind.i64 xx4, Value.int IntKind.i64 (0 : Int), Value.int IntKind.i64 (0 : Int), Value.int IntKind.i64 (0 : Int), Value.int IntKind.i64 xx7, Value.int IntKind.i64 (0 : Int), Value.bool false, Value.int IntKind.i64 (0 : Int), Value.tuple #[], Value.tuple #[], Value.slice la n lc, Value.pointer (some (Addr.mk xx1.fst (0 : Nat) none)), Value.pointer (some (Addr.mk xx1.fst (0 : Nat) none)), Value.bool false, Value.int IntKind.i64 v, Value.int IntKind.i64 (0 : Int), Value.int IntKind.i64 (0 : Int), Value.int IntKind.i64 v2, Value.int IntKind.i64 (↑a : Int), Value.int IntKind.i64 v3, Value.int IntKind.i64 (↑b : Int), Value.pointer (some (Addr.mk xx1.fst (0 : Nat) none)), Value.int IntKind.i64 (0 : Int), Value.int IntKind.i64 (0 : Int), Value.pointer (some (Addr.mk xx1.fst (0 : Nat) none)), Value.int IntKind.i64 (↑a : Int), Value.int IntKind.i64 (0 : Int), Value.tuple #[Value.int IntKind.i64 xx4, Value.int IntKind.i64 (0 : Int)], Value.pointer (some (Addr.mk xx1.fst (0 : Nat) none)), Value.tuple #[Value.int IntKind.i64 xx4, Value.int IntKind.i64 (0 : Int)], Value.int IntKind.i64 xx4, Value.int IntKind.i64 (0 : Int), Value.pointer (some (Addr.mk xx1.fst (0 : Nat) none)), Value.int IntKind.i64 (0 : Int), Value.pointer (some (Addr.mk xx1.fst (0 : Nat) none)), Value.int IntKind.i64 (↑b : Int), Value.int IntKind.i64 (0 : Int), Value.tuple #[Value.int IntKind.i64 xx7, Value.int IntKind.i64 (0 : Int)], Value.pointer (some (Addr.mk xx1.fst (0 : Nat) none)), Value.tuple #[Value.int IntKind.i64 xx7, Value.int IntKind.i64 (0 : Int)], Value.int IntKind.i64 xx7, Value.int IntKind.i64 (0 : Int), Value.int IntKind.i64 (0 : Int), Value.bool false, Value.bool false, Value.int IntKind.i64 (0 : Int), Value.bool false, Value.bool false, Value.bool false, Value.int IntKind.i64 (0 : Int), Value.bool false, Value.bool false, Value.bool false, Value.int IntKind.i64 (0 : Int), Value.bool false, Value.bool false, Value.bool false, Value.int IntKind.i64 (0 : Int), Value.bool false, Value.bool false, Value.bool false, Value.int IntKind.i64 (0 : Int), Value.bool false, Value.bool false, Value.tuple #[], Value.tuple #[], Value.tuple #[], Value.tuple #[], Value.tuple #[], Value.tuple #[], Value.tuple #[], Value.tuple #[], Value.tuple #[], Value.tuple #[], Value.tuple #[], Value.tuple #[], Value.tuple #[], Value.tuple #[], Value.tuple #[], Value.tuple #[], Value.tuple #[], Value.tuple #[], Value.tuple #[], Value.tuple #[], Value.tuple #[], Value.tuple #[], Value.tuple #[], Value.tuple #[], Value.tuple #[], Value.tuple #[], Value.tuple #[], Value.tuple #[], Value.tuple #[], Value.tuple #[], Value.tuple #[], Value.tuple #[], Value.tuple #[], Value.tuple #[], Value.tuple #[], Value.tuple #[], Value.tuple #[], Value.tuple #[], Value.tuple #[], Value.tuple #[], Value.tuple #[], Value.tuple #[], Value.tuple #[], Value.tuple #[], Value.tuple #[], Value.tuple #[], Value.tuple #[], Value.tuple #[], Value.tuple #[], Value.tuple #[], Value.tuple #[], Value.tuple #[], Value.tuple #[], Value.tuple #[], Value.tuple #[], Value.tuple #[], Value.tuple #[], Value.tuple #[], Value.tuple #[], Value.tuple #[], Value.tuple #[], Value.tuple #[], Value.tuple #[], Value.tuple #[], Value.tuple #[], Value.tuple #[], Value.tuple #[], Value.tuple #[], Value.tuple #[], Value.tuple #[], Value.tuple #[], Value.tuple #[], Value.tuple #[], Value.tuple #[], Value.tuple #[], Value.tuple #[], Value.tuple #[], Value.tuple #[], Value.tuple #[], Value.tuple #[], Value.tuple #[], Value.tuple #[], Value.tuple #[], Value.tuple #[], Value.tuple #[], Value.tuple #[], Value.tuple #[], Value.tuple #[], Value.tuple #[], Value.tuple #[], Value.tuple #[], Value.tuple #[], Value.tuple #[], Value.tuple #[]] [8, 23, 24, 79, 80, 81, 82, 83, 84, 85, 86, 87, 88, 89, 90, 91, 92, 93, 94, 95, 96, 97, 98, 99, 100, 101, 102, 103, 104, 105, 106, 107, 108, 109, 110, 111, 112, 113, 114, 115, 116, 117, 118, 119, 120, 121, 122, 123, 124, 125, 126, 127, 128, 129, 130, 131, 132, 133, 134, 135, 136, 137, 138, 139, 140, 141, 142, 143, 144, 145, 146, 147, 148, 149, 150, 151, 152] (((fun x => [(21, .bool x.2), (22, .int .i64 (x.1 : Nat))]) : (Nat × Bool) → List (Nat × Go.Value)) x.1) x.2) (fun x => ((fun x => [PoS xx1.1 xx6 xx1.2.1 xx1.2.2 xs, (Drv te), bts xx1.2.1 xx1.2.2 xs, A]) : (Nat × Bool) → List Go.Sl.HP) x.1) (((0, false)), fun j => ([Value.slice la n lc, Value.int IntKind.i64 v, Value.int IntKind.i64 v2, Value.int IntKind.i64 v3, Value.tuple #[], Value.tuple #[], Value.tuple #[], Value.tuple #[], Value.bool false, Value.pointer (some (Addr.mk xx1.fst (0 : Nat) none)), Value.int IntKind.i64 (0 : Int), Value.int IntKind.i64 (↑a : Int), Value.int IntKind.i64 (↑b : Int), Value.int IntKind.i64 (0 : Int), Value.int IntKind.i64 (0 : Int), Value.int IntKind.i64 xx4, Value.int IntKind.i64 (0 : Int), Value.int IntKind.i64 (0 : Int), Value.int IntKind.i64 (0 : Int), Value.int IntKind.i64 xx7, Value.int IntKind.i64 (0 : Int), Value.bool false, Value.int IntKind.i64 (0 : Int), Value.tuple #[], Value.tuple #[], Value.slice la n lc, Value.pointer (some (Addr.mk xx1.fst (0 : Nat) none)), Value.pointer (some (Addr.mk xx1.fst (0 : Nat) none)), Value.bool false, Value.int IntKind.i64 v, Value.int IntKind.i64 (0 : Int), Value.int IntKind.i64 (0 : Int), Value.int IntKind.i64 v2, Value.int IntKind.i64 (↑a : Int), Value.int IntKind.i64 v3, Value.int IntKind.i64 (↑b : Int), Value.pointer (some (Addr.mk xx1.fst (0 : Nat) none)), Value.int IntKind.i64 (0 : Int), Value.int IntKind.i64 (0 : Int), Value.pointer (some (Addr.mk xx1.fst (0 : Nat) none)), Value.int IntKind.i64 (↑a : Int), Value.int IntKind.i64 (0 : Int), Value.tuple #[Value.int IntKind.i64 xx4, Value.int IntKind.i64 (0 : Int)], Value.pointer (some (Addr.mk xx1.fst (0 : Nat) none)), Value.tuple #[Value.int IntKind.i64 xx4, Value.int IntKind.i64 (0 : Int)], Value.int IntKind.i64 xx4, Value.int IntKind.i64 (0 : Int), Value.pointer (some (Addr.mk xx1.fst (0 : Nat) none)), Value.int IntKind.i64 (0 : Int), Value.pointer (some (Addr.mk xx1.fst (0 : Nat) none)), Value.int IntKind.i64 (↑b : Int), Value.int IntKind.i64 (0 : Int), Value.tuple #[Value.int IntKind.i64 xx7, Value.int IntKind.i64 (0 : Int)], Value.pointer (some (Addr.mk xx1.fst (0 : Nat) none)), Value.tuple #[Value.int IntKind.i64 xx7, Value.int IntKind.i64 (0 : Int)], Value.int IntKind.i64 xx7, Value.int IntKind.i64 (0 : Int), Value.int IntKind.i64 (0 : Int), Value.bool false, Value.bool false, Value.int IntKind.i64 (0 : Int), Value.bool false, Value.bool false, Value.bool false, Value.int IntKind.i64 (0 : Int), Value.bool false, Value.bool false, Value.bool false, Value.int IntKind.i64 (0 : Int), Value.bool false, Value.bool false, Value.bool false, Value.int IntKind.i64 (0 : Int), Value.bool false, Value.bool false, Value.bool false, Value.int IntKind.i64 (0 : Int), Value.bool false, Value.bool false, Value.tuple #[], Value.tuple #[], Value.tuple #[], Value.tuple #[], Value.tuple #[], Value.tuple #[], Value.tuple #[], Value.tuple #[], Value.tuple #[], Value.tuple #[], Value.tuple #[], Value.tuple #[], Value.tuple #[], Value.tuple #[], Value.tuple #[], Value.tuple #[], Value.tuple #[], Value.tuple #[], Value.tuple #[], Value.tuple #[], Value.tuple #[], Value.tuple #[], Value.tuple #[], Value.tuple #[], Value.tuple #[], Value.tuple #[], Value.tuple #[], Value.tuple #[], Value.tuple #[], Value.tuple #[], Value.tuple #[], Value.tuple #[], Value.tuple #[], Value.tuple #[], Value.tuple #[], Value.tuple #[], Value.tuple #[], Value.tuple #[], Value.tuple #[], Value.tuple #[], Value.tuple #[], Value.tuple #[], Value.tuple #[], Value.tuple #[], Value.tuple #[], Value.tuple #[], Value.tuple #[], Value.tuple #[], Value.tuple #[], Value.tuple #[], Value.tuple #[], Value.tuple #[], Value.tuple #[], Value.tuple #[], Value.tuple #[], Value.tuple #[], Value.tuple #[], Value.tuple #[], Value.tuple #[], Value.tuple #[], Value.tuple #[], Value.tuple #[], Value.tuple #[], Value.tuple #[], Value.tuple #[], Value.tuple #[], Value.tuple #[], Value.tuple #[], Value.tuple #[], Value.tuple #[], Value.tuple #[], Value.tuple #[], Value.tuple #[], Value.tuple #[], Value.tuple #[], Value.tuple #[], Value.tuple #[], Value.tuple #[], Value.tuple #[], Value.tuple #[], Value.tuple #[], Value.tuple #[], Value.tuple #[], Value.tuple #[], Value.tuple #[], Value.tuple #[], Value.tuple #[], Value.tuple #[], Value.tuple #[], Value.tuple #[], Value.tuple #[], Value.tuple #[], Value.tuple #[], Value.tuple #[]] : List Value).getD j undef) (by kernel_rfl) (by kernel_rfl) ?_ ?_)
  · exact ⟨Nat.zero_le _, rfl⟩
  rintro ⟨⟨j, f⟩, J⟩ ⟨hj, hf⟩ ih
  dsimp only at hj hf
  (focus
    refine Xg.At.same (T' := [Value.slice la n lc, Value.int IntKind.i64 v, Value.int IntKind.i64 v2, Value.int IntKind.i64 v3, Value.tuple #[], Value.tuple #[], Value.tuple #[], Value.tuple #[], ((j, f), J).snd (8 : Nat), Value.pointer (some (Addr.mk xx1.fst (0 : Nat) none)), Value.int IntKind.i64 (0 : Int), Value.int IntKind.i64 (↑a : Int), Value.int IntKind.i64 (↑b : Int), Value.int IntKind.i64 (0 : Int), Value.int IntKind.i64 (0 : Int), Value.int IntKind.i64 xx4, Value.int IntKind.i64 (0 : Int), Value.int IntKind.i64 (0 : Int), Value.int IntKind.i64 (0 : Int), Value.int IntKind.i64 xx7, Value.int IntKind.i64 (0 : Int), Value.bool f, Value.int IntKind.i64 (↑j : Int), ((j, f), J).snd (23 : Nat), ((j, f), J).snd (24 : Nat), Value.slice la n lc, Value.pointer (some (Addr.mk xx1.fst (0 : Nat) none)), Value.pointer (some (Addr.mk xx1.fst (0 : Nat) none)), Value.bool false, Value.int IntKind.i64 v, Value.int IntKind.i64 (0 : Int), Value.int IntKind.i64 (0 : Int), Value.int IntKind.i64 v2, Value.int IntKind.i64 (↑a : Int), Value.int IntKind.i64 v3, Value.int IntKind.i64 (↑b : Int), Value.pointer (some (Addr.mk xx1.fst (0 : Nat) none)), Value.int IntKind.i64 (0 : Int), Value.int IntKind.i64 (0 : Int), Value.pointer (some (Addr.mk xx1.fst (0 : Nat) none)), Value.int IntKind.i64 (↑a : Int), Value.int IntKind.i64 (0 : Int), Value.tuple #[Value.int IntKind.i64 xx4, Value.int IntKind.i64 (0 : Int)], Value.pointer (some (Addr.mk xx1.fst (0 : Nat) none)), Value.tuple #[Value.int IntKind.i64 xx4, Value.int IntKind.i64 (0 : Int)], Value.int IntKind.i64 xx4, Value.int IntKind.i64 (0 : Int), Value.pointer (some (Addr.mk xx1.fst (0 : Nat) none)), Value.int IntKind.i64 (0 : Int), Value.pointer (some (Addr.mk xx1.fst (0 : Nat) none)), Value.int IntKind.i64 (↑b : Int), Value.int IntKind.i64 (0 : Int), Value.tuple #[Value.int IntKind.i64 xx7, Value.int IntKind.i64 (0 : Int)], Value.pointer (some (Addr.mk xx1.fst (0 : Nat) none)), Value.tuple #[Value.int IntKind.i64 xx7, Value.int IntKind.i64 (0 : Int)], Value.int IntKind.i64 xx7, Value.int IntKind.i64 (0 : Int), Value.int IntKind.i64 (0 : Int), Value.bool false, Value.bool false, Value.int IntKind.i64 (0 : Int), Value.bool false, Value.bool false, Value.bool false, Value.int IntKind.i64 (0 : Int), Value.bool false, Value.bool false, Value.bool false, Value.int IntKind.i64 (0 : Int), Value.bool false, Value.bool false, Value.bool false, Value.int IntKind.i64 (0 : Int), Value.bool false, Value.bool false, Value.bool false, Value.int IntKind.i64 (0 : Int), Value.bool false, Value.bool false, ((j, f), J).snd (79 : Nat), ((j, f), J).snd (80 : Nat), ((j, f), J).snd (81 : Nat), ((j, f), J).snd (82 : Nat), ((j, f), J).snd (83 : Nat), ((j, f), J).snd (84 : Nat), ((j, f), J).snd (85 : Nat), ((j, f), J).snd (86 : Nat), ((j, f), J).snd (87 : Nat), ((j, f), J).snd (88 : Nat), ((j, f), J).snd (89 : Nat), ((j, f), J).snd (90 : Nat), ((j, f), J).snd (91 : Nat), ((j, f), J).snd (92 : Nat), ((j, f), J).snd (93 : Nat), ((j, f), J).snd (94 : Nat), ((j, f), J).snd (95 : Nat), ((j, f), J).snd (96 : Nat), ((j, f), J).snd (97 : Nat), ((j, f), J).snd (98 : Nat), ((j, f), J).snd (99 : Nat), ((j, f), J).snd (100 : Nat), ((j, f), J).snd (101 : Nat), ((j, f), J).snd (102 : Nat), ((j, f), J).snd (103 : Nat), ((j, f), J).snd (104 : Nat), ((j, f), J).snd (105 : Nat), ((j, f), J).snd (106 : Nat), ((j, f), J).snd (107 : Nat), ((j, f), J).snd (108 : Nat), ((j, f), J).snd (109 : Nat), ((j, f), J).snd (110 : Nat), ((j, f), J).snd (111 : Nat), ((j, f), J).snd (112 : Nat), ((j, f), J).snd (113 : Nat), ((j, f), J).snd (114 : Nat), ((j, f), J).snd (115 : Nat), ((j, f), J).snd (116 : Nat), ((j, f), J).snd (117 : Nat), ((j, f), J).snd (118 : Nat), ((j, f), J).snd (119 : Nat), ((j, f), J).snd (120 : Nat), ((j, f), J).snd (121 : Nat), ((j, f), J).snd (122 : Nat), ((j, f), J).snd (123 : Nat), ((j, f), J).snd (124 : Nat), ((j, f), J).snd (125 : Nat), ((j, f), J).snd (126 : Nat), ((j, f), J).snd (127 : Nat), ((j, f), J).snd (128 : Nat), ((j, f), J).snd (129 : Nat), ((j, f), J).snd (130 : Nat), ((j, f), J).snd (131 : Nat), ((j, f), J).snd (132 : Nat), ((j, f), J).snd (133 : Nat), ((j, f), J).snd (134 : Nat), ((j, f), J).snd (135 : Nat), ((j, f), J).snd (136 : Nat), ((j, f), J).snd (137 : Nat), ((j, f), J).snd (138 : Nat), ((j, f), J).snd (139 : Nat), ((j, f), J).snd (140 : Nat), ((j, f), J).snd (141 : Nat), ((j, f), J).snd (142 : Nat), ((j, f), J).snd (143 : Nat), ((j, f), J).snd (144 : Nat), ((j, f), J).snd (145 : Nat), ((j, f), J).snd (146 : Nat), ((j, f), J).snd (147 : Nat), ((j, f), J).snd (148 : Nat), ((j, f), J).snd (149 : Nat), ((j, f), J).snd (150 : Nat), ((j, f), J).snd (151 : Nat), ((j, f), J).snd (152 : Nat), Value.tuple #[], Value.tuple #[], Value.tuple #[], Value.tuple #[], Value.tuple #[], Value.tuple #[], Value.tuple #[], Value.tuple #[], Value.tuple #[], Value.tuple #[], Value.tuple #[], Value.tuple #[], Value.tuple #[], Value.tuple #[], Value.tuple #[], Value.tuple #[], Value.tuple #[], Value.tuple #[], Value.tuple #[], Value.tuple #[]]) (L' := [PoS xx1.fst xx6 xx1.snd.fst xx1.snd.snd xs, Drv te, bts xx1.snd.fst xx1.snd.snd xs, A]) (by kernel_rfl) rfl ?_)
  by_cases hlt : j < 4
  · obtain ⟨x0, a0, a4, hx0, ha0, ha4, hxr, hdA, hb1, hb2, hb3, hb4⟩ := round_facts hk ha hlt hX1 hX2 hXb
    obtain ⟨y0, b0, b4, hy0, hb0, hb4', hyr, hdB, hc1, hc2, hc3, hc4⟩ := round_facts hk hb hlt hY1 hY2 hYb
    have hn1 : fellN 0 a b (j + 1) = (f || (decide (y0 = 0) && !decide (x0 = 0))) := by rw [fellN, hdA, hdB, ← hf]
    have e16 : band .i64 (((0 : Nat) : Int) * 16) 16 = 0 := by decide
    have e32 : band .i64 (((0 : Nat) : Int) * 16) 32 = 0 := by decide
    rw [e16, e32] at hxr hyr
    clear hXb hYb hdA hdB hq e16 e32 hx240 hy240 hX1 hX2 hY1 hY2 hX0 hY0 hreq hn xh1 xh2_0 xh2_1 xh3_0 xh3_1 xh3_2 xh3_3 xh3_4 xh3_5 xh4 xh5_1 xh6_1 xh6_2 xh6_3 xh6_4 xh6_5 xh7 ha hb hf
    (focus
      refine Xg.at_seq ?_
      refine Xg.at_seq ?_
      refine Xg.at_region ?_
      refine Xg.ops_op (by kernel_rfl) (Xg.opx_pure ((Value.int IntKind.i64 (↑j : Int))) rfl (fun _ => by kernel_rfl) ?_)
      refine Xg.ops_op (by kernel_rfl) (Xg.opx_pure (.bool (decide ((((↑j : Int)) : Int) < ((4 : Int))))) rfl (fun _ => by kernel_rfl) ?_)
      refine Xg.ops_nil ?_
      refine Xg.at_true (t := decide (((↑j : Int) < (4 : Int)))) (by kernel_rfl) (decide_eq_true (by omega)) ?_
      refine Xg.at_skip ?_
      refine Xg.at_seq ?_
      refine Xg.at_block ?_
      refine Xg.at_seq ?_
      refine Xg.at_region ?_
      refine Xg.ops_op (by kernel_rfl) (Xg.opx_pure ((Value.int IntKind.i64 (0 : Int))) rfl (fun _ => by kernel_rfl) ?_)
      refine Xg.ops_op (by kernel_rfl) (Xg.opx_pure ((Value.int IntKind.i64 (0 : Int))) rfl (fun _ => by kernel_rfl) ?_)
      refine Xg.ops_op (by kernel_rfl) (Xg.opx_pure ((Value.bool true)) rfl (fun _ => by kernel_rfl) ?_)
      refine Xg.ops_op (by kernel_rfl) (Xg.opx_pure ((Value.bool true)) rfl (fun _ => by kernel_rfl) ?_)
      refine Xg.ops_op (by kernel_rfl) (Xg.opx_pure ((Value.int IntKind.i64 (↑a : Int))) rfl (fun _ => by kernel_rfl) ?_)
      refine Xg.ops_op (by kernel_rfl) (Xg.opx_pure ((Value.int IntKind.i64 (↑j : Int))) rfl (fun _ => by kernel_rfl) ?_)
      refine Xg.ops_op (by kernel_rfl) (Xg.opx_run (.int .i64 (Int.fdiv ((↑a : Int)) (2 ^ min (Int.toNat ((↑j : Int))) (IntKind.bits .i64)))) rfl (fun _ => Xg.run_shr (k1 := .i64) (k2 := .i64) (m := ((↑a : Int))) (e := ((↑j : Int))) (by kernel_rfl) (by kernel_rfl) (by omega)) ?_)
      refine Xg.ops_op (by kernel_rfl) (Xg.opx_pure (.int .i64 (Xg.band .i64 (((↑a : Int).fdiv ((2 : Int) ^ min (↑j : Int).toNat IntKind.i64.bits))) (((1 : Int))))) rfl (fun _ => by kernel_rfl) ?_)
      refine Xg.ops_op (by kernel_rfl) (Xg.opx_pure (.bool (decide (((band IntKind.i64 ((↑a : Int).fdiv ((2 : Int) ^ min (↑j : Int).toNat IntKind.i64.bits)) (1 : Int)) : Int) = ((1 : Int))))) rfl (fun _ => by kernel_rfl) ?_)
      refine Xg.ops_flag (j := 91) (c := (decide (band IntKind.i64 ((↑a : Int).fdiv ((2 : Int) ^ min (↑j : Int).toNat IntKind.i64.bits)) (1 : Int) = (1 : Int)))) (by kernel_rfl) (fun xh1 => ?_) (fun xh1 => ?_)
      replace xh1 : (band IntKind.i64 ((↑a : Int).fdiv ((2 : Int) ^ min (↑j : Int).toNat IntKind.i64.bits)) (1 : Int) = (1 : Int)) := of_decide_eq_true xh1
      rotate_left
      replace xh1 : ¬ ((band IntKind.i64 ((↑a : Int).fdiv ((2 : Int) ^ min (↑j : Int).toNat IntKind.i64.bits)) (1 : Int) = (1 : Int))) := of_decide_eq_false xh1
      rotate_right
      refine Xg.ops_op (by kernel_rfl) (Xg.opx_pure ((Value.bool true)) rfl (fun _ => by kernel_rfl) ?_)
      refine Xg.ops_op (by kernel_rfl) (Xg.opx_pure ((Value.bool true)) rfl (fun _ => by kernel_rfl) ?_)
      refine Xg.ops_skip (by kernel_rfl) ?_
      refine Xg.ops_skip (by kernel_rfl) ?_
      refine Xg.ops_skip (by kernel_rfl) ?_
      refine Xg.ops_skip (by kernel_rfl) ?_
      refine Xg.ops_skip (by kernel_rfl) ?_
      refine Xg.ops_skip (by kernel_rfl) ?_
      refine Xg.ops_skip (by kernel_rfl) ?_
      refine Xg.ops_skip (by kernel_rfl) ?_
      refine Xg.ops_skip (by kernel_rfl) ?_
      refine Xg.ops_skip (by kernel_rfl) ?_
      refine Xg.ops_skip (by kernel_rfl) ?_
      refine Xg.ops_op (by kernel_rfl) (Xg.opx_pure ((Value.bool true)) rfl (fun _ => by kernel_rfl) ?_)
      refine Xg.ops_op (by kernel_rfl) (Xg.opx_pure ((Value.bool true)) rfl (fun _ => by kernel_rfl) ?_)
      refine Xg.ops_nil ?_
      refine Xg.at_seq ?_
      refine Xg.at_region ?_
      refine Xg.ops_op (by kernel_rfl) (Xg.opx_pure ((Value.int IntKind.i64 (0 : Int))) rfl (fun _ => by kernel_rfl) ?_)
      refine Xg.ops_op (by kernel_rfl) (Xg.opx_pure ((Value.int IntKind.i64 (0 : Int))) rfl (fun _ => by kernel_rfl) ?_)
      refine Xg.ops_op (by kernel_rfl) (Xg.opx_pure ((Value.bool true)) rfl (fun _ => by kernel_rfl) ?_)
      refine Xg.ops_op (by kernel_rfl) (Xg.opx_pure ((Value.bool true)) rfl (fun _ => by kernel_rfl) ?_)
      refine Xg.ops_op (by kernel_rfl) (Xg.opx_pure ((Value.int IntKind.i64 (↑b : Int))) rfl (fun _ => by kernel_rfl) ?_)
      refine Xg.ops_op (by kernel_rfl) (Xg.opx_pure ((Value.int IntKind.i64 (↑j : Int))) rfl (fun _ => by kernel_rfl) ?_)
      refine Xg.ops_op (by kernel_rfl) (Xg.opx_run (.int .i64 (Int.fdiv ((↑b : Int)) (2 ^ min (Int.toNat ((↑j : Int))) (IntKind.bits .i64)))) rfl (fun _ => Xg.run_shr (k1 := .i64) (k2 := .i64) (m := ((↑b : Int))) (e := ((↑j : Int))) (by kernel_rfl) (by kernel_rfl) (by omega)) ?_)
      refine Xg.ops_op (by kernel_rfl) (Xg.opx_pure (.int .i64 (Xg.band .i64 (((↑b : Int).fdiv ((2 : Int) ^ min (↑j : Int).toNat IntKind.i64.bits))) (((1 : Int))))) rfl (fun _ => by kernel_rfl) ?_)
      refine Xg.ops_op (by kernel_rfl) (Xg.opx_pure (.bool (decide (((band IntKind.i64 ((↑b : Int).fdiv ((2 : Int) ^ min (↑j : Int).toNat IntKind.i64.bits)) (1 : Int)) : Int) = ((1 : Int))))) rfl (fun _ => by kernel_rfl) ?_)
      refine Xg.ops_flag (j := 114) (c := (decide (band IntKind.i64 ((↑b : Int).fdiv ((2 : Int) ^ min (↑j : Int).toNat IntKind.i64.bits)) (1 : Int) = (1 : Int)))) (by kernel_rfl) (fun xh2 => ?_) (fun xh2 => ?_)
      replace xh2 : (band IntKind.i64 ((↑b : Int).fdiv ((2 : Int) ^ min (↑j : Int).toNat IntKind.i64.bits)) (1 : Int) = (1 : Int)) := of_decide_eq_true xh2
      rotate_left
      replace xh2 : ¬ ((band IntKind.i64 ((↑b : Int).fdiv ((2 : Int) ^ min (↑j : Int).toNat IntKind.i64.bits)) (1 : Int) = (1 : Int))) := of_decide_eq_false xh2
      rotate_right
      refine Xg.ops_op (by kernel_rfl) (Xg.opx_pure ((Value.bool true)) rfl (fun _ => by kernel_rfl) ?_)
      refine Xg.ops_op (by kernel_rfl) (Xg.opx_pure ((Value.bool true)) rfl (fun _ => by kernel_rfl) ?_)
      refine Xg.ops_skip (by kernel_rfl) ?_
      refine Xg.ops_skip (by kernel_rfl) ?_
      refine Xg.ops_skip (by kernel_rfl) ?_
      refine Xg.ops_skip (by kernel_rfl) ?_
      refine Xg.ops_skip (by kernel_rfl) ?_
      refine Xg.ops_skip (by kernel_rfl) ?_
      refine Xg.ops_skip (by kernel_rfl) ?_
      refine Xg.ops_skip (by kernel_rfl) ?_
      refine Xg.ops_skip (by kernel_rfl) ?_
      refine Xg.ops_skip (by kernel_rfl) ?_
      refine Xg.ops_skip (by kernel_rfl) ?_
      refine Xg.ops_op (by kernel_rfl) (Xg.opx_pure ((Value.bool true)) rfl (fun _ => by kernel_rfl) ?_)
      refine Xg.ops_op (by kernel_rfl) (Xg.opx_pure ((Value.bool true)) rfl (fun _ => by kernel_rfl) ?_)
      refine Xg.ops_nil ?_
      refine Xg.at_seq ?_
      refine Xg.at_seq ?_
      refine Xg.at_region ?_
      refine Xg.ops_op (by kernel_rfl) (Xg.opx_pure ((Value.int IntKind.i64 xx4)) rfl (fun _ => by kernel_rfl) ?_)
      refine Xg.ops_op (by kernel_rfl) (Xg.opx_pure ((Value.int IntKind.i64 (↑j : Int))) rfl (fun _ => by kernel_rfl) ?_)
      refine Xg.ops_op (by kernel_rfl) (Xg.opx_run (.int .i64 (Int.fdiv xx4 (2 ^ min (Int.toNat ((↑j : Int))) (IntKind.bits .i64)))) rfl (fun _ => Xg.run_shr (k1 := .i64) (k2 := .i64) (m := xx4) (e := ((↑j : Int))) (by kernel_rfl) (by kernel_rfl) (by omega)) ?_)
      refine Xg.ops_op (by kernel_rfl) (Xg.opx_pure (.int .i64 (Xg.band .i64 ((xx4.fdiv ((2 : Int) ^ min (↑j : Int).toNat IntKind.i64.bits))) (((1 : Int))))) rfl (fun _ => by kernel_rfl) ?_)
      refine Xg.ops_op (by kernel_rfl) (Xg.opx_pure (.bool (decide (((band IntKind.i64 (xx4.fdiv ((2 : Int) ^ min (↑j : Int).toNat IntKind.i64.bits)) (1 : Int)) : Int) = ((0 : Int))))) rfl (fun _ => by kernel_rfl) ?_)
      refine Xg.ops_op (by kernel_rfl) (Xg.opx_pure ((Value.bool true)) rfl (fun _ => by kernel_rfl) ?_)
      refine Xg.ops_op (by kernel_rfl) (Xg.opx_eq (v := ((Value.bool !decide (band IntKind.i64 (xx4.fdiv ((2 : Int) ^ min (↑j : Int).toNat IntKind.i64.bits)) (1 : Int) = (0 : Int)) == true))) (.bool (!(decide (band IntKind.i64 (xx4.fdiv ((2 : Int) ^ min (↑j : Int).toNat IntKind.i64.bits)) (1 : Int) = (0 : Int))))) rfl (fun _ => by kernel_rfl) (by generalize ((decide (band IntKind.i64 (xx4.fdiv ((2 : Int) ^ min (↑j : Int).toNat IntKind.i64.bits)) (1 : Int) = (0 : Int))) : Bool) = bb; cases bb <;> rfl) ?_)
      refine Xg.ops_op (by kernel_rfl) (Xg.opx_pure ((Value.bool !decide (band IntKind.i64 (xx4.fdiv ((2 : Int) ^ min (↑j : Int).toNat IntKind.i64.bits)) (1 : Int) = (0 : Int)))) rfl (fun _ => by kernel_rfl) ?_)
      refine Xg.ops_flag (j := 136) (c := (!decide (band IntKind.i64 (xx4.fdiv ((2 : Int) ^ min (↑j : Int).toNat IntKind.i64.bits)) (1 : Int) = (0 : Int)))) (by kernel_rfl) (fun xh3 => absurd xh3 (by rw [decide_eq_true (p := (band IntKind.i64 (xx4.fdiv ((2 : Int) ^ min (↑j : Int).toNat IntKind.i64.bits)) (1 : Int) = (0 : Int))) (by omega)]; decide)) (fun _ => ?_)
      refine Xg.ops_op (by kernel_rfl) (Xg.opx_pure ((Value.int IntKind.i64 xx7)) rfl (fun _ => by kernel_rfl) ?_)
      refine Xg.ops_op (by kernel_rfl) (Xg.opx_pure ((Value.int IntKind.i64 (↑j : Int))) rfl (fun _ => by kernel_rfl) ?_)
      refine Xg.ops_op (by kernel_rfl) (Xg.opx_run (.int .i64 (Int.fdiv xx7 (2 ^ min (Int.toNat ((↑j : Int))) (IntKind.bits .i64)))) rfl (fun _ => Xg.run_shr (k1 := .i64) (k2 := .i64) (m := xx7) (e := ((↑j : Int))) (by kernel_rfl) (by kernel_rfl) (by omega)) ?_)
      refine Xg.ops_op (by kernel_rfl) (Xg.opx_pure (.int .i64 (Xg.band .i64 ((xx7.fdiv ((2 : Int) ^ min (↑j : Int).toNat IntKind.i64.bits))) (((1 : Int))))) rfl (fun _ => by kernel_rfl) ?_)
      refine Xg.ops_op (by kernel_rfl) (Xg.opx_pure (.bool (decide (((band IntKind.i64 (xx7.fdiv ((2 : Int) ^ min (↑j : Int).toNat IntKind.i64.bits)) (1 : Int)) : Int) = ((0 : Int))))) rfl (fun _ => by kernel_rfl) ?_)
      refine Xg.ops_op (by kernel_rfl) (Xg.opx_pure ((Value.bool true)) rfl (fun _ => by kernel_rfl) ?_)
      refine Xg.ops_op (by kernel_rfl) (Xg.opx_eq (v := ((Value.bool !decide (band IntKind.i64 (xx7.fdiv ((2 : Int) ^ min (↑j : Int).toNat IntKind.i64.bits)) (1 : Int) = (0 : Int)) == true))) (.bool (!(decide (band IntKind.i64 (xx7.fdiv ((2 : Int) ^ min (↑j : Int).toNat IntKind.i64.bits)) (1 : Int) = (0 : Int))))) rfl (fun _ => by kernel_rfl) (by generalize ((decide (band IntKind.i64 (xx7.fdiv ((2 : Int) ^ min (↑j : Int).toNat IntKind.i64.bits)) (1 : Int) = (0 : Int))) : Bool) = bb; cases bb <;> rfl) ?_)
      refine Xg.ops_flag (j := 143) (c := (!decide (band IntKind.i64 (xx7.fdiv ((2 : Int) ^ min (↑j : Int).toNat IntKind.i64.bits)) (1 : Int) = (0 : Int)))) (by kernel_rfl) (fun xh3 => absurd xh3 (by rw [decide_eq_true (p := (band IntKind.i64 (xx7.fdiv ((2 : Int) ^ min (↑j : Int).toNat IntKind.i64.bits)) (1 : Int) = (0 : Int))) (by omega)]; decide)) (fun _ => ?_)
      refine Xg.ops_op (by kernel_rfl) (Xg.opx_pure ((Value.bool false)) rfl (fun _ => by kernel_rfl) ?_)
      refine Xg.ops_nil ?_
      refine Xg.at_false (t := false) (by kernel_rfl) rfl ?_
      refine Xg.at_skip ?_
      refine Xg.at_region ?_
      refine Xg.ops_op (by kernel_rfl) (Xg.opx_pure ((Value.bool f)) rfl (fun _ => by kernel_rfl) ?_)
      refine Xg.ops_op (by kernel_rfl) (Xg.opx_pure ((Value.bool f)) rfl (fun _ => by kernel_rfl) ?_)
      refine Xg.ops_flag (j := 146) (c := f) (by kernel_rfl) (fun xh3 => ?_) (fun xh3 => ?_)
      refine Xg.ops_skip (by kernel_rfl) ?_
      refine Xg.ops_skip (by kernel_rfl) ?_
      refine Xg.ops_skip (by kernel_rfl) ?_
      refine Xg.ops_skip (by kernel_rfl) ?_
      refine Xg.ops_skip (by kernel_rfl) ?_
      refine Xg.ops_op (by kernel_rfl) (Xg.opx_pure ((Value.bool true)) rfl (fun _ => by kernel_rfl) ?_)
      refine Xg.ops_op (by kernel_rfl) (Xg.opx_pure ((Value.bool true)) rfl (fun _ => by kernel_rfl) ?_)
      refine Xg.ops_nil ?_
      refine Xg.at_inBlock ?_
      refine Xg.at_region ?_
      refine Xg.ops_op (by kernel_rfl) (Xg.opx_pure ((Value.int IntKind.i64 (↑j : Int))) rfl (fun _ => by kernel_rfl) ?_)
      refine Xg.ops_op (by kernel_rfl) (Xg.opx_int .i64 (IntKind.wrap .i64 (((↑j : Int) + (1 : Int)))) rfl (fun _ => by kernel_rfl) (Xg.wrap_i64_in (by omega)) ?_)
      refine Xg.ops_op (by kernel_rfl) (Xg.opx_pure ((Value.int IntKind.i64 ((↑j : Int) + (1 : Int)))) rfl (fun _ => by kernel_rfl) ?_)
      refine Xg.ops_nil ?_
      refine Xg.at_inLoop ?_
      rotate_left
      refine Xg.ops_op (by kernel_rfl) (Xg.opx_pure ((Value.bool true)) rfl (fun _ => by kernel_rfl) ?_)
      refine Xg.ops_op (by kernel_rfl) (Xg.opx_pure ((Value.bool true)) rfl (fun _ => by kernel_rfl) ?_)
      refine Xg.ops_op (by kernel_rfl) (Xg.opx_pure ((Value.bool true)) rfl (fun _ => by kernel_rfl) ?_)
      refine Xg.ops_op (by kernel_rfl) (Xg.opx_pure (.bool false) rfl (fun _ => by kernel_rfl) ?_)
      refine Xg.ops_op (by kernel_rfl) (Xg.opx_pure ((Value.bool false)) rfl (fun _ => by kernel_rfl) ?_)
      refine Xg.ops_op (by kernel_rfl) (Xg.opx_pure ((Value.bool false)) rfl (fun _ => by kernel_rfl) ?_)
      refine Xg.ops_op (by kernel_rfl) (Xg.opx_pure ((Value.bool false)) rfl (fun _ => by kernel_rfl) ?_)
      refine Xg.ops_nil ?_
      refine Xg.at_inBlock ?_
      refine Xg.at_region ?_
      refine Xg.ops_op (by kernel_rfl) (Xg.opx_pure ((Value.int IntKind.i64 (↑j : Int))) rfl (fun _ => by kernel_rfl) ?_)
      refine Xg.ops_op (by kernel_rfl) (Xg.opx_int .i64 (IntKind.wrap .i64 (((↑j : Int) + (1 : Int)))) rfl (fun _ => by kernel_rfl) (Xg.wrap_i64_in (by omega)) ?_)
      refine Xg.ops_op (by kernel_rfl) (Xg.opx_pure ((Value.int IntKind.i64 ((↑j : Int) + (1 : Int)))) rfl (fun _ => by kernel_rfl) ?_)
      refine Xg.ops_nil ?_
      refine Xg.at_inLoop ?_
      rotate_left
      refine Xg.ops_op (by kernel_rfl) (Xg.opx_pure ((Value.bool false)) rfl (fun _ => by kernel_rfl) ?_)
      refine Xg.ops_op (by kernel_rfl) (Xg.opx_pure ((Value.bool false)) rfl (fun _ => by kernel_rfl) ?_)
      refine Xg.ops_op (by kernel_rfl) (Xg.opx_pure ((Value.int IntKind.i64 (0 : Int))) rfl (fun _ => by kernel_rfl) ?_)
      refine Xg.ops_op (by kernel_rfl) (Xg.opx_pure ((Value.int IntKind.i64 (0 : Int))) rfl (fun _ => by kernel_rfl) ?_)
      refine Xg.ops_op (by kernel_rfl) (Xg.opx_pure ((Value.bool true)) rfl (fun _ => by kernel_rfl) ?_)
      refine Xg.ops_op (by kernel_rfl) (Xg.opx_pure ((Value.bool true)) rfl (fun _ => by kernel_rfl) ?_)
      refine Xg.ops_op (by kernel_rfl) (Xg.opx_pure ((Value.int IntKind.i64 (↑b : Int))) rfl (fun _ => by kernel_rfl) ?_)
      refine Xg.ops_op (by kernel_rfl) (Xg.opx_pure ((Value.int IntKind.i64 (↑j : Int))) rfl (fun _ => by kernel_rfl) ?_)
      refine Xg.ops_op (by kernel_rfl) (Xg.opx_int .i64 (IntKind.wrap .i64 (((4 : Int) + (↑j : Int)))) rfl (fun _ => by kernel_rfl) (Xg.wrap_i64_in (by omega)) ?_)
      refine Xg.ops_op (by kernel_rfl) (Xg.opx_run (.int .i64 (Int.fdiv ((↑b : Int)) (2 ^ min (Int.toNat ((4 : Int) + (↑j : Int))) (IntKind.bits .i64)))) rfl (fun _ => Xg.run_shr (k1 := .i64) (k2 := .i64) (m := ((↑b : Int))) (e := ((4 : Int) + (↑j : Int))) (by kernel_rfl) (by kernel_rfl) (by omega)) ?_)
      refine Xg.ops_op (by kernel_rfl) (Xg.opx_pure (.int .i64 (Xg.band .i64 (((↑b : Int).fdiv ((2 : Int) ^ min ((4 : Int) + (↑j : Int)).toNat IntKind.i64.bits))) (((1 : Int))))) rfl (fun _ => by kernel_rfl) ?_)
      refine Xg.ops_op (by kernel_rfl) (Xg.opx_pure (.bool (decide (((band IntKind.i64 ((↑b : Int).fdiv ((2 : Int) ^ min ((4 : Int) + (↑j : Int)).toNat IntKind.i64.bits)) (1 : Int)) : Int) = ((1 : Int))))) rfl (fun _ => by kernel_rfl) ?_)
      refine Xg.ops_flag (j := 126) (c := (decide (band IntKind.i64 ((↑b : Int).fdiv ((2 : Int) ^ min ((4 : Int) + (↑j : Int)).toNat IntKind.i64.bits)) (1 : Int) = (1 : Int)))) (by kernel_rfl) (fun xh3 => ?_) (fun xh3 => ?_)
      replace xh3 : (band IntKind.i64 ((↑b : Int).fdiv ((2 : Int) ^ min ((4 : Int) + (↑j : Int)).toNat IntKind.i64.bits)) (1 : Int) = (1 : Int)) := of_decide_eq_true xh3
      rotate_left
      replace xh3 : ¬ ((band IntKind.i64 ((↑b : Int).fdiv ((2 : Int) ^ min ((4 : Int) + (↑j : Int)).toNat IntKind.i64.bits)) (1 : Int) = (1 : Int))) := of_decide_eq_false xh3
      rotate_right
      refine Xg.ops_op (by kernel_rfl) (Xg.opx_pure ((Value.bool true)) rfl (fun _ => by kernel_rfl) ?_)
      refine Xg.ops_op (by kernel_rfl) (Xg.opx_pure ((Value.bool true)) rfl (fun _ => by kernel_rfl) ?_)
      refine Xg.ops_op (by kernel_rfl) (Xg.opx_pure ((Value.bool true)) rfl (fun _ => by kernel_rfl) ?_)
      refine Xg.ops_nil ?_
      refine Xg.at_seq ?_
      refine Xg.at_seq ?_
      refine Xg.at_region ?_
      refine Xg.ops_op (by kernel_rfl) (Xg.opx_pure ((Value.int IntKind.i64 xx4)) rfl (fun _ => by kernel_rfl) ?_)
      refine Xg.ops_op (by kernel_rfl) (Xg.opx_pure ((Value.int IntKind.i64 (↑j : Int))) rfl (fun _ => by kernel_rfl) ?_)
      refine Xg.ops_op (by kernel_rfl) (Xg.opx_run (.int .i64 (Int.fdiv xx4 (2 ^ min (Int.toNat ((↑j : Int))) (IntKind.bits .i64)))) rfl (fun _ => Xg.run_shr (k1 := .i64) (k2 := .i64) (m := xx4) (e := ((↑j : Int))) (by kernel_rfl) (by kernel_rfl) (by omega)) ?_)
      refine Xg.ops_op (by kernel_rfl) (Xg.opx_pure (.int .i64 (Xg.band .i64 ((xx4.fdiv ((2 : Int) ^ min (↑j : Int).toNat IntKind.i64.bits))) (((1 : Int))))) rfl (fun _ => by kernel_rfl) ?_)
      refine Xg.ops_op (by kernel_rfl) (Xg.opx_pure (.bool (decide (((band IntKind.i64 (xx4.fdiv ((2 : Int) ^ min (↑j : Int).toNat IntKind.i64.bits)) (1 : Int)) : Int) = ((0 : Int))))) rfl (fun _ => by kernel_rfl) ?_)
      refine Xg.ops_op (by kernel_rfl) (Xg.opx_pure ((Value.bool true)) rfl (fun _ => by kernel_rfl) ?_)
      refine Xg.ops_op (by kernel_rfl) (Xg.opx_eq (v := ((Value.bool !decide (band IntKind.i64 (xx4.fdiv ((2 : Int) ^ min (↑j : Int).toNat IntKind.i64.bits)) (1 : Int) = (0 : Int)) == true))) (.bool (!(decide (band IntKind.i64 (xx4.fdiv ((2 : Int) ^ min (↑j : Int).toNat IntKind.i64.bits)) (1 : Int) = (0 : Int))))) rfl (fun _ => by kernel_rfl) (by generalize ((decide (band IntKind.i64 (xx4.fdiv ((2 : Int) ^ min (↑j : Int).toNat IntKind.i64.bits)) (1 : Int) = (0 : Int))) : Bool) = bb; cases bb <;> rfl) ?_)
      refine Xg.ops_op (by kernel_rfl) (Xg.opx_pure ((Value.bool !decide (band IntKind.i64 (xx4.fdiv ((2 : Int) ^ min (↑j : Int).toNat IntKind.i64.bits)) (1 : Int) = (0 : Int)))) rfl (fun _ => by kernel_rfl) ?_)
      refine Xg.ops_flag (j := 136) (c := (!decide (band IntKind.i64 (xx4.fdiv ((2 : Int) ^ min (↑j : Int).toNat IntKind.i64.bits)) (1 : Int) = (0 : Int)))) (by kernel_rfl) (fun xh4 => absurd xh4 (by rw [decide_eq_true (p := (band IntKind.i64 (xx4.fdiv ((2 : Int) ^ min (↑j : Int).toNat IntKind.i64.bits)) (1 : Int) = (0 : Int))) (by omega)]; decide)) (fun _ => ?_)
      refine Xg.ops_op (by kernel_rfl) (Xg.opx_pure ((Value.int IntKind.i64 xx7)) rfl (fun _ => by kernel_rfl) ?_)
      refine Xg.ops_op (by kernel_rfl) (Xg.opx_pure ((Value.int IntKind.i64 (↑j : Int))) rfl (fun _ => by kernel_rfl) ?_)
      refine Xg.ops_op (by kernel_rfl) (Xg.opx_run (.int .i64 (Int.fdiv xx7 (2 ^ min (Int.toNat ((↑j : Int))) (IntKind.bits .i64)))) rfl (fun _ => Xg.run_shr (k1 := .i64) (k2 := .i64) (m := xx7) (e := ((↑j : Int))) (by kernel_rfl) (by kernel_rfl) (by omega)) ?_)
      refine Xg.ops_op (by kernel_rfl) (Xg.opx_pure (.int .i64 (Xg.band .i64 ((xx7.fdiv ((2 : Int) ^ min (↑j : Int).toNat IntKind.i64.bits))) (((1 : Int))))) rfl (fun _ => by kernel_rfl) ?_)
      refine Xg.ops_op (by kernel_rfl) (Xg.opx_pure (.bool (decide (((band IntKind.i64 (xx7.fdiv ((2 : Int) ^ min (↑j : Int).toNat IntKind.i64.bits)) (1 : Int)) : Int) = ((0 : Int))))) rfl (fun _ => by kernel_rfl) ?_)
      refine Xg.ops_op (by kernel_rfl) (Xg.opx_pure ((Value.bool true)) rfl (fun _ => by kernel_rfl) ?_)
      refine Xg.ops_op (by kernel_rfl) (Xg.opx_eq (v := ((Value.bool !decide (band IntKind.i64 (xx7.fdiv ((2 : Int) ^ min (↑j : Int).toNat IntKind.i64.bits)) (1 : Int) = (0 : Int)) == true))) (.bool (!(decide (band IntKind.i64 (xx7.fdiv ((2 : Int) ^ min (↑j : Int).toNat IntKind.i64.bits)) (1 : Int) = (0 : Int))))) rfl (fun _ => by kernel_rfl) (by generalize ((decide (band IntKind.i64 (xx7.fdiv ((2 : Int) ^ min (↑j : Int).toNat IntKind.i64.bits)) (1 : Int) = (0 : Int))) : Bool) = bb; cases bb <;> rfl) ?_)
      refine Xg.ops_flag (j := 143) (c := (!decide (band IntKind.i64 (xx7.fdiv ((2 : Int) ^ min (↑j : Int).toNat IntKind.i64.bits)) (1 : Int) = (0 : Int)))) (by kernel_rfl) (fun xh4 => absurd xh4 (by rw [decide_eq_true (p := (band IntKind.i64 (xx7.fdiv ((2 : Int) ^ min (↑j : Int).toNat IntKind.i64.bits)) (1 : Int) = (0 : Int))) (by omega)]; decide)) (fun _ => ?_)
      refine Xg.ops_op (by kernel_rfl) (Xg.opx_pure ((Value.bool false)) rfl (fun _ => by kernel_rfl) ?_)
      refine Xg.ops_nil ?_
      refine Xg.at_false (t := false) (by kernel_rfl) rfl ?_
      refine Xg.at_skip ?_
      refine Xg.at_region ?_
      refine Xg.ops_op (by kernel_rfl) (Xg.opx_pure ((Value.bool f)) rfl (fun _ => by kernel_rfl) ?_)
      refine Xg.ops_op (by kernel_rfl) (Xg.opx_pure ((Value.bool f)) rfl (fun _ => by kernel_rfl) ?_)
      refine Xg.ops_flag (j := 146) (c := f) (by kernel_rfl) (fun xh4 => ?_) (fun xh4 => ?_)
      refine Xg.ops_skip (by kernel_rfl) ?_
      refine Xg.ops_skip (by kernel_rfl) ?_
      refine Xg.ops_skip (by kernel_rfl) ?_
      refine Xg.ops_skip (by kernel_rfl) ?_
      refine Xg.ops_skip (by kernel_rfl) ?_
      refine Xg.ops_op (by kernel_rfl) (Xg.opx_pure ((Value.bool true)) rfl (fun _ => by kernel_rfl) ?_)
      refine Xg.ops_op (by kernel_rfl) (Xg.opx_pure ((Value.bool true)) rfl (fun _ => by kernel_rfl) ?_)
      refine Xg.ops_nil ?_
      refine Xg.at_inBlock ?_
      refine Xg.at_region ?_
      refine Xg.ops_op (by kernel_rfl) (Xg.opx_pure ((Value.int IntKind.i64 (↑j : Int))) rfl (fun _ => by kernel_rfl) ?_)
      refine Xg.ops_op (by kernel_rfl) (Xg.opx_int .i64 (IntKind.wrap .i64 (((↑j : Int) + (1 : Int)))) rfl (fun _ => by kernel_rfl) (Xg.wrap_i64_in (by omega)) ?_)
      refine Xg.ops_op (by kernel_rfl) (Xg.opx_pure ((Value.int IntKind.i64 ((↑j : Int) + (1 : Int)))) rfl (fun _ => by kernel_rfl) ?_)
      refine Xg.ops_nil ?_
      refine Xg.at_inLoop ?_
      rotate_left
      refine Xg.ops_op (by kernel_rfl) (Xg.opx_pure ((Value.bool true)) rfl (fun _ => by kernel_rfl) ?_)
      refine Xg.ops_op (by kernel_rfl) (Xg.opx_pure ((Value.bool true)) rfl (fun _ => by kernel_rfl) ?_)
      refine Xg.ops_op (by kernel_rfl) (Xg.opx_pure ((Value.bool true)) rfl (fun _ => by kernel_rfl) ?_)
      refine Xg.ops_op (by kernel_rfl) (Xg.opx_pure (.bool false) rfl (fun _ => by kernel_rfl) ?_)
      refine Xg.ops_op (by kernel_rfl) (Xg.opx_pure ((Value.bool false)) rfl (fun _ => by kernel_rfl) ?_)
      refine Xg.ops_op (by kernel_rfl) (Xg.opx_pure ((Value.bool false)) rfl (fun _ => by kernel_rfl) ?_)
      refine Xg.ops_op (by kernel_rfl) (Xg.opx_pure ((Value.bool false)) rfl (fun _ => by kernel_rfl) ?_)
      refine Xg.ops_nil ?_
      refine Xg.at_inBlock ?_
      refine Xg.at_region ?_
      refine Xg.ops_op (by kernel_rfl) (Xg.opx_pure ((Value.int IntKind.i64 (↑j : Int))) rfl (fun _ => by kernel_rfl) ?_)
      refine Xg.ops_op (by kernel_rfl) (Xg.opx_int .i64 (IntKind.wrap .i64 (((↑j : Int) + (1 : Int)))) rfl (fun _ => by kernel_rfl) (Xg.wrap_i64_in (by omega)) ?_)
      refine Xg.ops_op (by kernel_rfl) (Xg.opx_pure ((Value.int IntKind.i64 ((↑j : Int) + (1 : Int)))) rfl (fun _ => by kernel_rfl) ?_)
      refine Xg.ops_nil ?_
      refine Xg.at_inLoop ?_
      rotate_left
      refine Xg.ops_op (by kernel_rfl) (Xg.opx_pure ((Value.bool false)) rfl (fun _ => by kernel_rfl) ?_)
      refine Xg.ops_op (by kernel_rfl) (Xg.opx_pure ((Value.bool false)) rfl (fun _ => by kernel_rfl) ?_)
      refine Xg.ops_op (by kernel_rfl) (Xg.opx_pure ((Value.bool false)) rfl (fun _ => by kernel_rfl) ?_)
      refine Xg.ops_nil ?_
      refine Xg.at_seq ?_
      refine Xg.at_seq ?_
      refine Xg.at_region ?_
      refine Xg.ops_op (by kernel_rfl) (Xg.opx_pure ((Value.int IntKind.i64 xx4)) rfl (fun _ => by kernel_rfl) ?_)
      refine Xg.ops_op (by kernel_rfl) (Xg.opx_pure ((Value.int IntKind.i64 (↑j : Int))) rfl (fun _ => by kernel_rfl) ?_)
      refine Xg.ops_op (by kernel_rfl) (Xg.opx_run (.int .i64 (Int.fdiv xx4 (2 ^ min (Int.toNat ((↑j : Int))) (IntKind.bits .i64)))) rfl (fun _ => Xg.run_shr (k1 := .i64) (k2 := .i64) (m := xx4) (e := ((↑j : Int))) (by kernel_rfl) (by kernel_rfl) (by omega)) ?_)
      refine Xg.ops_op (by kernel_rfl) (Xg.opx_pure (.int .i64 (Xg.band .i64 ((xx4.fdiv ((2 : Int) ^ min (↑j : Int).toNat IntKind.i64.bits))) (((1 : Int))))) rfl (fun _ => by kernel_rfl) ?_)
      refine Xg.ops_op (by kernel_rfl) (Xg.opx_pure (.bool (decide (((band IntKind.i64 (xx4.fdiv ((2 : Int) ^ min (↑j : Int).toNat IntKind.i64.bits)) (1 : Int)) : Int) = ((0 : Int))))) rfl (fun _ => by kernel_rfl) ?_)
      refine Xg.ops_op (by kernel_rfl) (Xg.opx_pure ((Value.bool true)) rfl (fun _ => by kernel_rfl) ?_)
      refine Xg.ops_op (by kernel_rfl) (Xg.opx_eq (v := ((Value.bool !decide (band IntKind.i64 (xx4.fdiv ((2 : Int) ^ min (↑j : Int).toNat IntKind.i64.bits)) (1 : Int) = (0 : Int)) == true))) (.bool (!(decide (band IntKind.i64 (xx4.fdiv ((2 : Int) ^ min (↑j : Int).toNat IntKind.i64.bits)) (1 : Int) = (0 : Int))))) rfl (fun _ => by kernel_rfl) (by generalize ((decide (band IntKind.i64 (xx4.fdiv ((2 : Int) ^ min (↑j : Int).toNat IntKind.i64.bits)) (1 : Int) = (0 : Int))) : Bool) = bb; cases bb <;> rfl) ?_)
      refine Xg.ops_op (by kernel_rfl) (Xg.opx_pure ((Value.bool !decide (band IntKind.i64 (xx4.fdiv ((2 : Int) ^ min (↑j : Int).toNat IntKind.i64.bits)) (1 : Int) = (0 : Int)))) rfl (fun _ => by kernel_rfl) ?_)
      refine Xg.ops_flag (j := 136) (c := (!decide (band IntKind.i64 (xx4.fdiv ((2 : Int) ^ min (↑j : Int).toNat IntKind.i64.bits)) (1 : Int) = (0 : Int)))) (by kernel_rfl) (fun xh4 => absurd xh4 (by rw [decide_eq_true (p := (band IntKind.i64 (xx4.fdiv ((2 : Int) ^ min (↑j : Int).toNat IntKind.i64.bits)) (1 : Int) = (0 : Int))) (by omega)]; decide)) (fun _ => ?_)
      refine Xg.ops_op (by kernel_rfl) (Xg.opx_pure ((Value.int IntKind.i64 xx7)) rfl (fun _ => by kernel_rfl) ?_)
      refine Xg.ops_op (by kernel_rfl) (Xg.opx_pure ((Value.int IntKind.i64 (↑j : Int))) rfl (fun _ => by kernel_rfl) ?_)
      refine Xg.ops_op (by kernel_rfl) (Xg.opx_run (.int .i64 (Int.fdiv xx7 (2 ^ min (Int.toNat ((↑j : Int))) (IntKind.bits .i64)))) rfl (fun _ => Xg.run_shr (k1 := .i64) (k2 := .i64) (m := xx7) (e := ((↑j : Int))) (by kernel_rfl) (by kernel_rfl) (by omega)) ?_)
      refine Xg.ops_op (by kernel_rfl) (Xg.opx_pure (.int .i64 (Xg.band .i64 ((xx7.fdiv ((2 : Int) ^ min (↑j : Int).toNat IntKind.i64.bits))) (((1 : Int))))) rfl (fun _ => by kernel_rfl) ?_)
      refine Xg.ops_op (by kernel_rfl) (Xg.opx_pure (.bool (decide (((band IntKind.i64 (xx7.fdiv ((2 : Int) ^ min (↑j : Int).toNat IntKind.i64.bits)) (1 : Int)) : Int) = ((0 : Int))))) rfl (fun _ => by kernel_rfl) ?_)
      refine Xg.ops_op (by kernel_rfl) (Xg.opx_pure ((Value.bool false)) rfl (fun _ => by kernel_rfl) ?_)
      refine Xg.ops_op (by kernel_rfl) (Xg.opx_eq (v := ((Value.bool !decide (band IntKind.i64 (xx7.fdiv ((2 : Int) ^ min (↑j : Int).toNat IntKind.i64.bits)) (1 : Int) = (0 : Int)) == false))) (.bool (decide (band IntKind.i64 (xx7.fdiv ((2 : Int) ^ min (↑j : Int).toNat IntKind.i64.bits)) (1 : Int) = (0 : Int)))) rfl (fun _ => by kernel_rfl) (by generalize ((decide (band IntKind.i64 (xx7.fdiv ((2 : Int) ^ min (↑j : Int).toNat IntKind.i64.bits)) (1 : Int) = (0 : Int))) : Bool) = bb; cases bb <;> rfl) ?_)
      refine Xg.ops_flag (j := 143) (c := (decide (band IntKind.i64 (xx7.fdiv ((2 : Int) ^ min (↑j : Int).toNat IntKind.i64.bits)) (1 : Int) = (0 : Int)))) (by kernel_rfl) (fun xh4 => absurd (of_decide_eq_true xh4) (by omega)) (fun _ => ?_)
      refine Xg.ops_op (by kernel_rfl) (Xg.opx_pure ((Value.bool false)) rfl (fun _ => by kernel_rfl) ?_)
      refine Xg.ops_nil ?_
      refine Xg.at_false (t := false) (by kernel_rfl) rfl ?_
      refine Xg.at_skip ?_
      refine Xg.at_region ?_
      refine Xg.ops_op (by kernel_rfl) (Xg.opx_pure ((Value.bool f)) rfl (fun _ => by kernel_rfl) ?_)
      refine Xg.ops_op (by kernel_rfl) (Xg.opx_pure ((Value.bool f)) rfl (fun _ => by kernel_rfl) ?_)
      refine Xg.ops_flag (j := 146) (c := f) (by kernel_rfl) (fun xh4 => ?_) (fun xh4 => ?_)
      refine Xg.ops_skip (by kernel_rfl) ?_
      refine Xg.ops_skip (by kernel_rfl) ?_
      refine Xg.ops_skip (by kernel_rfl) ?_
      refine Xg.ops_skip (by kernel_rfl) ?_
      refine Xg.ops_skip (by kernel_rfl) ?_
      refine Xg.ops_op (by kernel_rfl) (Xg.opx_pure ((Value.bool true)) rfl (fun _ => by kernel_rfl) ?_)
      refine Xg.ops_op (by kernel_rfl) (Xg.opx_pure ((Value.bool true)) rfl (fun _ => by kernel_rfl) ?_)
      refine Xg.ops_nil ?_
      refine Xg.at_inBlock ?_
      refine Xg.at_region ?_
      refine Xg.ops_op (by kernel_rfl) (Xg.opx_pure ((Value.int IntKind.i64 (↑j : Int))) rfl (fun _ => by kernel_rfl) ?_)
      refine Xg.ops_op (by kernel_rfl) (Xg.opx_int .i64 (IntKind.wrap .i64 (((↑j : Int) + (1 : Int)))) rfl (fun _ => by kernel_rfl) (Xg.wrap_i64_in (by omega)) ?_)
      refine Xg.ops_op (by kernel_rfl) (Xg.opx_pure ((Value.int IntKind.i64 ((↑j : Int) + (1 : Int)))) rfl (fun _ => by kernel_rfl) ?_)
      refine Xg.ops_nil ?_
      refine Xg.at_inLoop ?_
      rotate_left
      refine Xg.ops_op (by kernel_rfl) (Xg.opx_pure ((Value.bool false)) rfl (fun _ => by kernel_rfl) ?_)
      refine Xg.ops_op (by kernel_rfl) (Xg.opx_pure ((Value.bool false)) rfl (fun _ => by kernel_rfl) ?_)
      refine Xg.ops_skip (by kernel_rfl) ?_
      refine Xg.ops_skip (by kernel_rfl) ?_
      refine Xg.ops_op (by kernel_rfl) (Xg.opx_pure ((Value.bool false)) rfl (fun _ => by kernel_rfl) ?_)
      refine Xg.ops_op (by kernel_rfl) (Xg.opx_pure ((Value.bool false)) rfl (fun _ => by kernel_rfl) ?_)
      refine Xg.ops_op (by kernel_rfl) (Xg.opx_pure ((Value.bool false)) rfl (fun _ => by kernel_rfl) ?_)
      refine Xg.ops_nil ?_
      refine Xg.at_inBlock ?_
      refine Xg.at_region ?_
      refine Xg.ops_op (by kernel_rfl) (Xg.opx_pure ((Value.int IntKind.i64 (↑j : Int))) rfl (fun _ => by kernel_rfl) ?_)
      refine Xg.ops_op (by kernel_rfl) (Xg.opx_int .i64 (IntKind.wrap .i64 (((↑j : Int) + (1 : Int)))) rfl (fun _ => by kernel_rfl) (Xg.wrap_i64_in (by omega)) ?_)
      refine Xg.ops_op (by kernel_rfl) (Xg.opx_pure ((Value.int IntKind.i64 ((↑j : Int) + (1 : Int)))) rfl (fun _ => by kernel_rfl) ?_)
      refine Xg.ops_nil ?_
      refine Xg.at_inLoop ?_
      rotate_left
      refine Xg.ops_op (by kernel_rfl) (Xg.opx_pure ((Value.bool false)) rfl (fun _ => by kernel_rfl) ?_)
      refine Xg.ops_op (by kernel_rfl) (Xg.opx_pure ((Value.bool false)) rfl (fun _ => by kernel_rfl) ?_)
      refine Xg.ops_op (by kernel_rfl) (Xg.opx_pure ((Value.int IntKind.i64 (0 : Int))) rfl (fun _ => by kernel_rfl) ?_)
      refine Xg.ops_op (by kernel_rfl) (Xg.opx_pure ((Value.int IntKind.i64 (0 : Int))) rfl (fun _ => by kernel_rfl) ?_)
      refine Xg.ops_op (by kernel_rfl) (Xg.opx_pure ((Value.bool true)) rfl (fun _ => by kernel_rfl) ?_)
      refine Xg.ops_op (by kernel_rfl) (Xg.opx_pure ((Value.bool true)) rfl (fun _ => by kernel_rfl) ?_)
      refine Xg.ops_op (by kernel_rfl) (Xg.opx_pure ((Value.int IntKind.i64 (↑a : Int))) rfl (fun _ => by kernel_rfl) ?_)
      refine Xg.ops_op (by kernel_rfl) (Xg.opx_pure ((Value.int IntKind.i64 (↑j : Int))) rfl (fun _ => by kernel_rfl) ?_)
      refine Xg.ops_op (by kernel_rfl) (Xg.opx_int .i64 (IntKind.wrap .i64 (((4 : Int) + (↑j : Int)))) rfl (fun _ => by kernel_rfl) (Xg.wrap_i64_in (by omega)) ?_)
      refine Xg.ops_op (by kernel_rfl) (Xg.opx_run (.int .i64 (Int.fdiv ((↑a : Int)) (2 ^ min (Int.toNat ((4 : Int) + (↑j : Int))) (IntKind.bits .i64)))) rfl (fun _ => Xg.run_shr (k1 := .i64) (k2 := .i64) (m := ((↑a : Int))) (e := ((4 : Int) + (↑j : Int))) (by kernel_rfl) (by kernel_rfl) (by omega)) ?_)
      refine Xg.ops_op (by kernel_rfl) (Xg.opx_pure (.int .i64 (Xg.band .i64 (((↑a : Int).fdiv ((2 : Int) ^ min ((4 : Int) + (↑j : Int)).toNat IntKind.i64.bits))) (((1 : Int))))) rfl (fun _ => by kernel_rfl) ?_)
      refine Xg.ops_op (by kernel_rfl) (Xg.opx_pure (.bool (decide (((band IntKind.i64 ((↑a : Int).fdiv ((2 : Int) ^ min ((4 : Int) + (↑j : Int)).toNat IntKind.i64.bits)) (1 : Int)) : Int) = ((1 : Int))))) rfl (fun _ => by kernel_rfl) ?_)
      refine Xg.ops_flag (j := 103) (c := (decide (band IntKind.i64 ((↑a : Int).fdiv ((2 : Int) ^ min ((4 : Int) + (↑j : Int)).toNat IntKind.i64.bits)) (1 : Int) = (1 : Int)))) (by kernel_rfl) (fun xh2 => ?_) (fun xh2 => ?_)
      replace xh2 : (band IntKind.i64 ((↑a : Int).fdiv ((2 : Int) ^ min ((4 : Int) + (↑j : Int)).toNat IntKind.i64.bits)) (1 : Int) = (1 : Int)) := of_decide_eq_true xh2
      rotate_left
      replace xh2 : ¬ ((band IntKind.i64 ((↑a : Int).fdiv ((2 : Int) ^ min ((4 : Int) + (↑j : Int)).toNat IntKind.i64.bits)) (1 : Int) = (1 : Int))) := of_decide_eq_false xh2
      rotate_right
      refine Xg.ops_op (by kernel_rfl) (Xg.opx_pure ((Value.bool true)) rfl (fun _ => by kernel_rfl) ?_)
      refine Xg.ops_op (by kernel_rfl) (Xg.opx_pure ((Value.bool true)) rfl (fun _ => by kernel_rfl) ?_)
      refine Xg.ops_op (by kernel_rfl) (Xg.opx_pure ((Value.bool true)) rfl (fun _ => by kernel_rfl) ?_)
      refine Xg.ops_nil ?_
      refine Xg.at_seq ?_
      refine Xg.at_region ?_
      refine Xg.ops_op (by kernel_rfl) (Xg.opx_pure ((Value.int IntKind.i64 (0 : Int))) rfl (fun _ => by kernel_rfl) ?_)
      refine Xg.ops_op (by kernel_rfl) (Xg.opx_pure ((Value.int IntKind.i64 (0 : Int))) rfl (fun _ => by kernel_rfl) ?_)
      refine Xg.ops_op (by kernel_rfl) (Xg.opx_pure ((Value.bool true)) rfl (fun _ => by kernel_rfl) ?_)
      refine Xg.ops_op (by kernel_rfl) (Xg.opx_pure ((Value.bool true)) rfl (fun _ => by kernel_rfl) ?_)
      refine Xg.ops_op (by kernel_rfl) (Xg.opx_pure ((Value.int IntKind.i64 (↑b : Int))) rfl (fun _ => by kernel_rfl) ?_)
      refine Xg.ops_op (by kernel_rfl) (Xg.opx_pure ((Value.int IntKind.i64 (↑j : Int))) rfl (fun _ => by kernel_rfl) ?_)
      refine Xg.ops_op (by kernel_rfl) (Xg.opx_run (.int .i64 (Int.fdiv ((↑b : Int)) (2 ^ min (Int.toNat ((↑j : Int))) (IntKind.bits .i64)))) rfl (fun _ => Xg.run_shr (k1 := .i64) (k2 := .i64) (m := ((↑b : Int))) (e := ((↑j : Int))) (by kernel_rfl) (by kernel_rfl) (by omega)) ?_)
      refine Xg.ops_op (by kernel_rfl) (Xg.opx_pure (.int .i64 (Xg.band .i64 (((↑b : Int).fdiv ((2 : Int) ^ min (↑j : Int).toNat IntKind.i64.bits))) (((1 : Int))))) rfl (fun _ => by kernel_rfl) ?_)
      refine Xg.ops_op (by kernel_rfl) (Xg.opx_pure (.bool (decide (((band IntKind.i64 ((↑b : Int).fdiv ((2 : Int) ^ min (↑j : Int).toNat IntKind.i64.bits)) (1 : Int)) : Int) = ((1 : Int))))) rfl (fun _ => by kernel_rfl) ?_)
      refine Xg.ops_flag (j := 114) (c := (decide (band IntKind.i64 ((↑b : Int).fdiv ((2 : Int) ^ min (↑j : Int).toNat IntKind.i64.bits)) (1 : Int) = (1 : Int)))) (by kernel_rfl) (fun xh3 => ?_) (fun xh3 => ?_)
      replace xh3 : (band IntKind.i64 ((↑b : Int).fdiv ((2 : Int) ^ min (↑j : Int).toNat IntKind.i64.bits)) (1 : Int) = (1 : Int)) := of_decide_eq_true xh3
      rotate_left
      replace xh3 : ¬ ((band IntKind.i64 ((↑b : Int).fdiv ((2 : Int) ^ min (↑j : Int).toNat IntKind.i64.bits)) (1 : Int) = (1 : Int))) := of_decide_eq_false xh3
      rotate_right
      refine Xg.ops_op (by kernel_rfl) (Xg.opx_pure ((Value.bool true)) rfl (fun _ => by kernel_rfl) ?_)
      refine Xg.ops_op (by kernel_rfl) (Xg.opx_pure ((Value.bool true)) rfl (fun _ => by kernel_rfl) ?_)
      refine Xg.ops_skip (by kernel_rfl) ?_
      refine Xg.ops_skip (by kernel_rfl) ?_
      refine Xg.ops_skip (by kernel_rfl) ?_
      refine Xg.ops_skip (by kernel_rfl) ?_
      refine Xg.ops_skip (by kernel_rfl) ?_
      refine Xg.ops_skip (by kernel_rfl) ?_
      refine Xg.ops_skip (by kernel_rfl) ?_
      refine Xg.ops_skip (by kernel_rfl) ?_
      refine Xg.ops_skip (by kernel_rfl) ?_
      refine Xg.ops_skip (by kernel_rfl) ?_
      refine Xg.ops_skip (by kernel_rfl) ?_
      refine Xg.ops_op (by kernel_rfl) (Xg.opx_pure ((Value.bool true)) rfl (fun _ => by kernel_rfl) ?_)
      refine Xg.ops_op (by kernel_rfl) (Xg.opx_pure ((Value.bool true)) rfl (fun _ => by kernel_rfl) ?_)
      refine Xg.ops_nil ?_
      refine Xg.at_seq ?_
      refine Xg.at_seq ?_
      refine Xg.at_region ?_
      refine Xg.ops_op (by kernel_rfl) (Xg.opx_pure ((Value.int IntKind.i64 xx4)) rfl (fun _ => by kernel_rfl) ?_)
      refine Xg.ops_op (by kernel_rfl) (Xg.opx_pure ((Value.int IntKind.i64 (↑j : Int))) rfl (fun _ => by kernel_rfl) ?_)
      refine Xg.ops_op (by kernel_rfl) (Xg.opx_run (.int .i64 (Int.fdiv xx4 (2 ^ min (Int.toNat ((↑j : Int))) (IntKind.bits .i64)))) rfl (fun _ => Xg.run_shr (k1 := .i64) (k2 := .i64) (m := xx4) (e := ((↑j : Int))) (by kernel_rfl) (by kernel_rfl) (by omega)) ?_)
      refine Xg.ops_op (by kernel_rfl) (Xg.opx_pure (.int .i64 (Xg.band .i64 ((xx4.fdiv ((2 : Int) ^ min (↑j : Int).toNat IntKind.i64.bits))) (((1 : Int))))) rfl (fun _ => by kernel_rfl) ?_)
      refine Xg.ops_op (by kernel_rfl) (Xg.opx_pure (.bool (decide (((band IntKind.i64 (xx4.fdiv ((2 : Int) ^ min (↑j : Int).toNat IntKind.i64.bits)) (1 : Int)) : Int) = ((0 : Int))))) rfl (fun _ => by kernel_rfl) ?_)
      refine Xg.ops_op (by kernel_rfl) (Xg.opx_pure ((Value.bool true)) rfl (fun _ => by kernel_rfl) ?_)
      refine Xg.ops_op (by kernel_rfl) (Xg.opx_eq (v := ((Value.bool !decide (band IntKind.i64 (xx4.fdiv ((2 : Int) ^ min (↑j : Int).toNat IntKind.i64.bits)) (1 : Int) = (0 : Int)) == true))) (.bool (!(decide (band IntKind.i64 (xx4.fdiv ((2 : Int) ^ min (↑j : Int).toNat IntKind.i64.bits)) (1 : Int) = (0 : Int))))) rfl (fun _ => by kernel_rfl) (by generalize ((decide (band IntKind.i64 (xx4.fdiv ((2 : Int) ^ min (↑j : Int).toNat IntKind.i64.bits)) (1 : Int) = (0 : Int))) : Bool) = bb; cases bb <;> rfl) ?_)
      refine Xg.ops_op (by kernel_rfl) (Xg.opx_pure ((Value.bool !decide (band IntKind.i64 (xx4.fdiv ((2 : Int) ^ min (↑j : Int).toNat IntKind.i64.bits)) (1 : Int) = (0 : Int)))) rfl (fun _ => by kernel_rfl) ?_)
      refine Xg.ops_flag (j := 136) (c := (!decide (band IntKind.i64 (xx4.fdiv ((2 : Int) ^ min (↑j : Int).toNat IntKind.i64.bits)) (1 : Int) = (0 : Int)))) (by kernel_rfl) (fun xh4 => absurd xh4 (by rw [decide_eq_true (p := (band IntKind.i64 (xx4.fdiv ((2 : Int) ^ min (↑j : Int).toNat IntKind.i64.bits)) (1 : Int) = (0 : Int))) (by omega)]; decide)) (fun _ => ?_)
      refine Xg.ops_op (by kernel_rfl) (Xg.opx_pure ((Value.int IntKind.i64 xx7)) rfl (fun _ => by kernel_rfl) ?_)
      refine Xg.ops_op (by kernel_rfl) (Xg.opx_pure ((Value.int IntKind.i64 (↑j : Int))) rfl (fun _ => by kernel_rfl) ?_)
      refine Xg.ops_op (by kernel_rfl) (Xg.opx_run (.int .i64 (Int.fdiv xx7 (2 ^ min (Int.toNat ((↑j : Int))) (IntKind.bits .i64)))) rfl (fun _ => Xg.run_shr (k1 := .i64) (k2 := .i64) (m := xx7) (e := ((↑j : Int))) (by kernel_rfl) (by kernel_rfl) (by omega)) ?_)
      refine Xg.ops_op (by kernel_rfl) (Xg.opx_pure (.int .i64 (Xg.band .i64 ((xx7.fdiv ((2 : Int) ^ min (↑j : Int).toNat IntKind.i64.bits))) (((1 : Int))))) rfl (fun _ => by kernel_rfl) ?_)
      refine Xg.ops_op (by kernel_rfl) (Xg.opx_pure (.bool (decide (((band IntKind.i64 (xx7.fdiv ((2 : Int) ^ min (↑j : Int).toNat IntKind.i64.bits)) (1 : Int)) : Int) = ((0 : Int))))) rfl (fun _ => by kernel_rfl) ?_)
      refine Xg.ops_op (by kernel_rfl) (Xg.opx_pure ((Value.bool true)) rfl (fun _ => by kernel_rfl) ?_)
      refine Xg.ops_op (by kernel_rfl) (Xg.opx_eq (v := ((Value.bool !decide (band IntKind.i64 (xx7.fdiv ((2 : Int) ^ min (↑j : Int).toNat IntKind.i64.bits)) (1 : Int) = (0 : Int)) == true))) (.bool (!(decide (band IntKind.i64 (xx7.fdiv ((2 : Int) ^ min (↑j : Int).toNat IntKind.i64.bits)) (1 : Int) = (0 : Int))))) rfl (fun _ => by kernel_rfl) (by generalize ((decide (band IntKind.i64 (xx7.fdiv ((2 : Int) ^ min (↑j : Int).toNat IntKind.i64.bits)) (1 : Int) = (0 : Int))) : Bool) = bb; cases bb <;> rfl) ?_)
      refine Xg.ops_flag (j := 143) (c := (!decide (band IntKind.i64 (xx7.fdiv ((2 : Int) ^ min (↑j : Int).toNat IntKind.i64.bits)) (1 : Int) = (0 : Int)))) (by kernel_rfl) (fun xh4 => absurd xh4 (by rw [decide_eq_true (p := (band IntKind.i64 (xx7.fdiv ((2 : Int) ^ min (↑j : Int).toNat IntKind.i64.bits)) (1 : Int) = (0 : Int))) (by omega)]; decide)) (fun _ => ?_)
      refine Xg.ops_op (by kernel_rfl) (Xg.opx_pure ((Value.bool false)) rfl (fun _ => by kernel_rfl) ?_)
      refine Xg.ops_nil ?_
      refine Xg.at_false (t := false) (by kernel_rfl) rfl ?_
      refine Xg.at_skip ?_
      refine Xg.at_region ?_
      refine Xg.ops_op (by kernel_rfl) (Xg.opx_pure ((Value.bool f)) rfl (fun _ => by kernel_rfl) ?_)
      refine Xg.ops_op (by kernel_rfl) (Xg.opx_pure ((Value.bool f)) rfl (fun _ => by kernel_rfl) ?_)
      refine Xg.ops_flag (j := 146) (c := f) (by kernel_rfl) (fun xh4 => ?_) (fun xh4 => ?_)
      refine Xg.ops_skip (by kernel_rfl) ?_
      refine Xg.ops_skip (by kernel_rfl) ?_
      refine Xg.ops_skip (by kernel_rfl) ?_
      refine Xg.ops_skip (by kernel_rfl) ?_
      refine Xg.ops_skip (by kernel_rfl) ?_
      refine Xg.ops_op (by kernel_rfl) (Xg.opx_pure ((Value.bool true)) rfl (fun _ => by kernel_rfl) ?_)
      refine Xg.ops_op (by kernel_rfl) (Xg.opx_pure ((Value.bool true)) rfl (fun _ => by kernel_rfl) ?_)
      refine Xg.ops_nil ?_
      refine Xg.at_inBlock ?_
      refine Xg.at_region ?_
      refine Xg.ops_op (by kernel_rfl) (Xg.opx_pure ((Value.int IntKind.i64 (↑j : Int))) rfl (fun _ => by kernel_rfl) ?_)
      refine Xg.ops_op (by kernel_rfl) (Xg.opx_int .i64 (IntKind.wrap .i64 (((↑j : Int) + (1 : Int)))) rfl (fun _ => by kernel_rfl) (Xg.wrap_i64_in (by omega)) ?_)
      refine Xg.ops_op (by kernel_rfl) (Xg.opx_pure ((Value.int IntKind.i64 ((↑j : Int) + (1 : Int)))) rfl (fun _ => by kernel_rfl) ?_)
      refine Xg.ops_nil ?_
      refine Xg.at_inLoop ?_
      rotate_left
      refine Xg.ops_op (by kernel_rfl) (Xg.opx_pure ((Value.bool true)) rfl (fun _ => by kernel_rfl) ?_)
      refine Xg.ops_op (by kernel_rfl) (Xg.opx_pure ((Value.bool true)) rfl (fun _ => by kernel_rfl) ?_)
      refine Xg.ops_op (by kernel_rfl) (Xg.opx_pure ((Value.bool true)) rfl (fun _ => by kernel_rfl) ?_)
      refine Xg.ops_op (by kernel_rfl) (Xg.opx_pure (.bool false) rfl (fun _ => by kernel_rfl) ?_)
      refine Xg.ops_op (by kernel_rfl) (Xg.opx_pure ((Value.bool false)) rfl (fun _ => by kernel_rfl) ?_)
      refine Xg.ops_op (by kernel_rfl) (Xg.opx_pure ((Value.bool false)) rfl (fun _ => by kernel_rfl) ?_)
      refine Xg.ops_op (by kernel_rfl) (Xg.opx_pure ((Value.bool false)) rfl (fun _ => by kernel_rfl) ?_)
      refine Xg.ops_nil ?_
      refine Xg.at_inBlock ?_
      refine Xg.at_region ?_
      refine Xg.ops_op (by kernel_rfl) (Xg.opx_pure ((Value.int IntKind.i64 (↑j : Int))) rfl (fun _ => by kernel_rfl) ?_)
      refine Xg.ops_op (by kernel_rfl) (Xg.opx_int .i64 (IntKind.wrap .i64 (((↑j : Int) + (1 : Int)))) rfl (fun _ => by kernel_rfl) (Xg.wrap_i64_in (by omega)) ?_)
      refine Xg.ops_op (by kernel_rfl) (Xg.opx_pure ((Value.int IntKind.i64 ((↑j : Int) + (1 : Int)))) rfl (fun _ => by kernel_rfl) ?_)
      refine Xg.ops_nil ?_
      refine Xg.at_inLoop ?_
      rotate_left
      refine Xg.ops_op (by kernel_rfl) (Xg.opx_pure ((Value.bool false)) rfl (fun _ => by kernel_rfl) ?_)
      refine Xg.ops_op (by kernel_rfl) (Xg.opx_pure ((Value.bool false)) rfl (fun _ => by kernel_rfl) ?_)
      refine Xg.ops_op (by kernel_rfl) (Xg.opx_pure ((Value.int IntKind.i64 (0 : Int))) rfl (fun _ => by kernel_rfl) ?_)
      refine Xg.ops_op (by kernel_rfl) (Xg.opx_pure ((Value.int IntKind.i64 (0 : Int))) rfl (fun _ => by kernel_rfl) ?_)
      refine Xg.ops_op (by kernel_rfl) (Xg.opx_pure ((Value.bool true)) rfl (fun _ => by kernel_rfl) ?_)
      refine Xg.ops_op (by kernel_rfl) (Xg.opx_pure ((Value.bool true)) rfl (fun _ => by kernel_rfl) ?_)
      refine Xg.ops_op (by kernel_rfl) (Xg.opx_pure ((Value.int IntKind.i64 (↑b : Int))) rfl (fun _ => by kernel_rfl) ?_)
      refine Xg.ops_op (by kernel_rfl) (Xg.opx_pure ((Value.int IntKind.i64 (↑j : Int))) rfl (fun _ => by kernel_rfl) ?_)
      refine Xg.ops_op (by kernel_rfl) (Xg.opx_int .i64 (IntKind.wrap .i64 (((4 : Int) + (↑j : Int)))) rfl (fun _ => by kernel_rfl) (Xg.wrap_i64_in (by omega)) ?_)
      refine Xg.ops_op (by kernel_rfl) (Xg.opx_run (.int .i64 (Int.fdiv ((↑b : Int)) (2 ^ min (Int.toNat ((4 : Int) + (↑j : Int))) (IntKind.bits .i64)))) rfl (fun _ => Xg.run_shr (k1 := .i64) (k2 := .i64) (m := ((↑b : Int))) (e := ((4 : Int) + (↑j : Int))) (by kernel_rfl) (by kernel_rfl) (by omega)) ?_)
      refine Xg.ops_op (by kernel_rfl) (Xg.opx_pure (.int .i64 (Xg.band .i64 (((↑b : Int).fdiv ((2 : Int) ^ min ((4 : Int) + (↑j : Int)).toNat IntKind.i64.bits))) (((1 : Int))))) rfl (fun _ => by kernel_rfl) ?_)
      refine Xg.ops_op (by kernel_rfl) (Xg.opx_pure (.bool (decide (((band IntKind.i64 ((↑b : Int).fdiv ((2 : Int) ^ min ((4 : Int) + (↑j : Int)).toNat IntKind.i64.bits)) (1 : Int)) : Int) = ((1 : Int))))) rfl (fun _ => by kernel_rfl) ?_)
      refine Xg.ops_flag (j := 126) (c := (decide (band IntKind.i64 ((↑b : Int).fdiv ((2 : Int) ^ min ((4 : Int) + (↑j : Int)).toNat IntKind.i64.bits)) (1 : Int) = (1 : Int)))) (by kernel_rfl) (fun xh4 => ?_) (fun xh4 => ?_)
      replace xh4 : (band IntKind.i64 ((↑b : Int).fdiv ((2 : Int) ^ min ((4 : Int) + (↑j : Int)).toNat IntKind.i64.bits)) (1 : Int) = (1 : Int)) := of_decide_eq_true xh4
      rotate_left
      replace xh4 : ¬ ((band IntKind.i64 ((↑b : Int).fdiv ((2 : Int) ^ min ((4 : Int) + (↑j : Int)).toNat IntKind.i64.bits)) (1 : Int) = (1 : Int))) := of_decide_eq_false xh4
      rotate_right
      refine Xg.ops_op (by kernel_rfl) (Xg.opx_pure ((Value.bool true)) rfl (fun _ => by kernel_rfl) ?_)
      refine Xg.ops_op (by kernel_rfl) (Xg.opx_pure ((Value.bool true)) rfl (fun _ => by kernel_rfl) ?_)
      refine Xg.ops_op (by kernel_rfl) (Xg.opx_pure ((Value.bool true)) rfl (fun _ => by kernel_rfl) ?_)
      refine Xg.ops_nil ?_
      refine Xg.at_seq ?_
      refine Xg.at_seq ?_
      refine Xg.at_region ?_
      refine Xg.ops_op (by kernel_rfl) (Xg.opx_pure ((Value.int IntKind.i64 xx4)) rfl (fun _ => by kernel_rfl) ?_)
      refine Xg.ops_op (by kernel_rfl) (Xg.opx_pure ((Value.int IntKind.i64 (↑j : Int))) rfl (fun _ => by kernel_rfl) ?_)
      refine Xg.ops_op (by kernel_rfl) (Xg.opx_run (.int .i64 (Int.fdiv xx4 (2 ^ min (Int.toNat ((↑j : Int))) (IntKind.bits .i64)))) rfl (fun _ => Xg.run_shr (k1 := .i64) (k2 := .i64) (m := xx4) (e := ((↑j : Int))) (by kernel_rfl) (by kernel_rfl) (by omega)) ?_)
      refine Xg.ops_op (by kernel_rfl) (Xg.opx_pure (.int .i64 (Xg.band .i64 ((xx4.fdiv ((2 : Int) ^ min (↑j : Int).toNat IntKind.i64.bits))) (((1 : Int))))) rfl (fun _ => by kernel_rfl) ?_)
      refine Xg.ops_op (by kernel_rfl) (Xg.opx_pure (.bool (decide (((band IntKind.i64 (xx4.fdiv ((2 : Int) ^ min (↑j : Int).toNat IntKind.i64.bits)) (1 : Int)) : Int) = ((0 : Int))))) rfl (fun _ => by kernel_rfl) ?_)
      refine Xg.ops_op (by kernel_rfl) (Xg.opx_pure ((Value.bool true)) rfl (fun _ => by kernel_rfl) ?_)
      refine Xg.ops_op (by kernel_rfl) (Xg.opx_eq (v := ((Value.bool !decide (band IntKind.i64 (xx4.fdiv ((2 : Int) ^ min (↑j : Int).toNat IntKind.i64.bits)) (1 : Int) = (0 : Int)) == true))) (.bool (!(decide (band IntKind.i64 (xx4.fdiv ((2 : Int) ^ min (↑j : Int).toNat IntKind.i64.bits)) (1 : Int) = (0 : Int))))) rfl (fun _ => by kernel_rfl) (by generalize ((decide (band IntKind.i64 (xx4.fdiv ((2 : Int) ^ min (↑j : Int).toNat IntKind.i64.bits)) (1 : Int) = (0 : Int))) : Bool) = bb; cases bb <;> rfl) ?_)
      refine Xg.ops_op (by kernel_rfl) (Xg.opx_pure ((Value.bool !decide (band IntKind.i64 (xx4.fdiv ((2 : Int) ^ min (↑j : Int).toNat IntKind.i64.bits)) (1 : Int) = (0 : Int)))) rfl (fun _ => by kernel_rfl) ?_)
      refine Xg.ops_flag (j := 136) (c := (!decide (band IntKind.i64 (xx4.fdiv ((2 : Int) ^ min (↑j : Int).toNat IntKind.i64.bits)) (1 : Int) = (0 : Int)))) (by kernel_rfl) (fun xh5 => absurd xh5 (by rw [decide_eq_true (p := (band IntKind.i64 (xx4.fdiv ((2 : Int) ^ min (↑j : Int).toNat IntKind.i64.bits)) (1 : Int) = (0 : Int))) (by omega)]; decide)) (fun _ => ?_)
      refine Xg.ops_op (by kernel_rfl) (Xg.opx_pure ((Value.int IntKind.i64 xx7)) rfl (fun _ => by kernel_rfl) ?_)
      refine Xg.ops_op (by kernel_rfl) (Xg.opx_pure ((Value.int IntKind.i64 (↑j : Int))) rfl (fun _ => by kernel_rfl) ?_)
      refine Xg.ops_op (by kernel_rfl) (Xg.opx_run (.int .i64 (Int.fdiv xx7 (2 ^ min (Int.toNat ((↑j : Int))) (IntKind.bits .i64)))) rfl (fun _ => Xg.run_shr (k1 := .i64) (k2 := .i64) (m := xx7) (e := ((↑j : Int))) (by kernel_rfl) (by kernel_rfl) (by omega)) ?_)
      refine Xg.ops_op (by kernel_rfl) (Xg.opx_pure (.int .i64 (Xg.band .i64 ((xx7.fdiv ((2 : Int) ^ min (↑j : Int).toNat IntKind.i64.bits))) (((1 : Int))))) rfl (fun _ => by kernel_rfl) ?_)
      refine Xg.ops_op (by kernel_rfl) (Xg.opx_pure (.bool (decide (((band IntKind.i64 (xx7.fdiv ((2 : Int) ^ min (↑j : Int).toNat IntKind.i64.bits)) (1 : Int)) : Int) = ((0 : Int))))) rfl (fun _ => by kernel_rfl) ?_)
      refine Xg.ops_op (by kernel_rfl) (Xg.opx_pure ((Value.bool true)) rfl (fun _ => by kernel_rfl) ?_)
      refine Xg.ops_op (by kernel_rfl) (Xg.opx_eq (v := ((Value.bool !decide (band IntKind.i64 (xx7.fdiv ((2 : Int) ^ min (↑j : Int).toNat IntKind.i64.bits)) (1 : Int) = (0 : Int)) == true))) (.bool (!(decide (band IntKind.i64 (xx7.fdiv ((2 : Int) ^ min (↑j : Int).toNat IntKind.i64.bits)) (1 : Int) = (0 : Int))))) rfl (fun _ => by kernel_rfl) (by generalize ((decide (band IntKind.i64 (xx7.fdiv ((2 : Int) ^ min (↑j : Int).toNat IntKind.i64.bits)) (1 : Int) = (0 : Int))) : Bool) = bb; cases bb <;> rfl) ?_)
      refine Xg.ops_flag (j := 143) (c := (!decide (band IntKind.i64 (xx7.fdiv ((2 : Int) ^ min (↑j : Int).toNat IntKind.i64.bits)) (1 : Int) = (0 : Int)))) (by kernel_rfl) (fun xh5 => absurd xh5 (by rw [decide_eq_true (p := (band IntKind.i64 (xx7.fdiv ((2 : Int) ^ min (↑j : Int).toNat IntKind.i64.bits)) (1 : Int) = (0 : Int))) (by omega)]; decide)) (fun _ => ?_)
      refine Xg.ops_op (by kernel_rfl) (Xg.opx_pure ((Value.bool false)) rfl (fun _ => by kernel_rfl) ?_)
      refine Xg.ops_nil ?_
      refine Xg.at_false (t := false) (by kernel_rfl) rfl ?_
      refine Xg.at_skip ?_
      refine Xg.at_region ?_
      refine Xg.ops_op (by kernel_rfl) (Xg.opx_pure ((Value.bool f)) rfl (fun _ => by kernel_rfl) ?_)
      refine Xg.ops_op (by kernel_rfl) (Xg.opx_pure ((Value.bool f)) rfl (fun _ => by kernel_rfl) ?_)
      refine Xg.ops_flag (j := 146) (c := f) (by kernel_rfl) (fun xh5 => ?_) (fun xh5 => ?_)
      refine Xg.ops_skip (by kernel_rfl) ?_
      refine Xg.ops_skip (by kernel_rfl) ?_
      refine Xg.ops_skip (by kernel_rfl) ?_
      refine Xg.ops_skip (by kernel_rfl) ?_
      refine Xg.ops_skip (by kernel_rfl) ?_
      refine Xg.ops_op (by kernel_rfl) (Xg.opx_pure ((Value.bool true)) rfl (fun _ => by kernel_rfl) ?_)
      refine Xg.ops_op (by kernel_rfl) (Xg.opx_pure ((Value.bool true)) rfl (fun _ => by kernel_rfl) ?_)
      refine Xg.ops_nil ?_
      refine Xg.at_inBlock ?_
      refine Xg.at_region ?_
      refine Xg.ops_op (by kernel_rfl) (Xg.opx_pure ((Value.int IntKind.i64 (↑j : Int))) rfl (fun _ => by kernel_rfl) ?_)
      refine Xg.ops_op (by kernel_rfl) (Xg.opx_int .i64 (IntKind.wrap .i64 (((↑j : Int) + (1 : Int)))) rfl (fun _ => by kernel_rfl) (Xg.wrap_i64_in (by omega)) ?_)
      refine Xg.ops_op (by kernel_rfl) (Xg.opx_pure ((Value.int IntKind.i64 ((↑j : Int) + (1 : Int)))) rfl (fun _ => by kernel_rfl) ?_)
      refine Xg.ops_nil ?_
      refine Xg.at_inLoop ?_
      rotate_left
      refine Xg.ops_op (by kernel_rfl) (Xg.opx_pure ((Value.bool true)) rfl (fun _ => by kernel_rfl) ?_)
      refine Xg.ops_op (by kernel_rfl) (Xg.opx_pure ((Value.bool true)) rfl (fun _ => by kernel_rfl) ?_)
      refine Xg.ops_op (by kernel_rfl) (Xg.opx_pure ((Value.bool true)) rfl (fun _ => by kernel_rfl) ?_)
      refine Xg.ops_op (by kernel_rfl) (Xg.opx_pure (.bool false) rfl (fun _ => by kernel_rfl) ?_)
      refine Xg.ops_op (by kernel_rfl) (Xg.opx_pure ((Value.bool false)) rfl (fun _ => by kernel_rfl) ?_)
      refine Xg.ops_op (by kernel_rfl) (Xg.opx_pure ((Value.bool false)) rfl (fun _ => by kernel_rfl) ?_)
      refine Xg.ops_op (by kernel_rfl) (Xg.opx_pure ((Value.bool false)) rfl (fun _ => by kernel_rfl) ?_)
      refine Xg.ops_nil ?_
      refine Xg.at_inBlock ?_
      refine Xg.at_region ?_
      refine Xg.ops_op (by kernel_rfl) (Xg.opx_pure ((Value.int IntKind.i64 (↑j : Int))) rfl (fun _ => by kernel_rfl) ?_)
      refine Xg.ops_op (by kernel_rfl) (Xg.opx_int .i64 (IntKind.wrap .i64 (((↑j : Int) + (1 : Int)))) rfl (fun _ => by kernel_rfl) (Xg.wrap_i64_in (by omega)) ?_)
      refine Xg.ops_op (by kernel_rfl) (Xg.opx_pure ((Value.int IntKind.i64 ((↑j : Int) + (1 : Int)))) rfl (fun _ => by kernel_rfl) ?_)
      refine Xg.ops_nil ?_
      refine Xg.at_inLoop ?_
      rotate_left
      refine Xg.ops_op (by kernel_rfl) (Xg.opx_pure ((Value.bool false)) rfl (fun _ => by kernel_rfl) ?_)
      refine Xg.ops_op (by kernel_rfl) (Xg.opx_pure ((Value.bool false)) rfl (fun _ => by kernel_rfl) ?_)
      refine Xg.ops_op (by kernel_rfl) (Xg.opx_pure ((Value.bool false)) rfl (fun _ => by kernel_rfl) ?_)
      refine Xg.ops_nil ?_
      refine Xg.at_seq ?_
      refine Xg.at_seq ?_
      refine Xg.at_region ?_
      refine Xg.ops_op (by kernel_rfl) (Xg.opx_pure ((Value.int IntKind.i64 xx4)) rfl (fun _ => by kernel_rfl) ?_)
      refine Xg.ops_op (by kernel_rfl) (Xg.opx_pure ((Value.int IntKind.i64 (↑j : Int))) rfl (fun _ => by kernel_rfl) ?_)
      refine Xg.ops_op (by kernel_rfl) (Xg.opx_run (.int .i64 (Int.fdiv xx4 (2 ^ min (Int.toNat ((↑j : Int))) (IntKind.bits .i64)))) rfl (fun _ => Xg.run_shr (k1 := .i64) (k2 := .i64) (m := xx4) (e := ((↑j : Int))) (by kernel_rfl) (by kernel_rfl) (by omega)) ?_)
      refine Xg.ops_op (by kernel_rfl) (Xg.opx_pure (.int .i64 (Xg.band .i64 ((xx4.fdiv ((2 : Int) ^ min (↑j : Int).toNat IntKind.i64.bits))) (((1 : Int))))) rfl (fun _ => by kernel_rfl) ?_)
      refine Xg.ops_op (by kernel_rfl) (Xg.opx_pure (.bool (decide (((band IntKind.i64 (xx4.fdiv ((2 : Int) ^ min (↑j : Int).toNat IntKind.i64.bits)) (1 : Int)) : Int) = ((0 : Int))))) rfl (fun _ => by kernel_rfl) ?_)
      refine Xg.ops_op (by kernel_rfl) (Xg.opx_pure ((Value.bool true)) rfl (fun _ => by kernel_rfl) ?_)
      refine Xg.ops_op (by kernel_rfl) (Xg.opx_eq (v := ((Value.bool !decide (band IntKind.i64 (xx4.fdiv ((2 : Int) ^ min (↑j : Int).toNat IntKind.i64.bits)) (1 : Int) = (0 : Int)) == true))) (.bool (!(decide (band IntKind.i64 (xx4.fdiv ((2 : Int) ^ min (↑j : Int).toNat IntKind.i64.bits)) (1 : Int) = (0 : Int))))) rfl (fun _ => by kernel_rfl) (by generalize ((decide (band IntKind.i64 (xx4.fdiv ((2 : Int) ^ min (↑j : Int).toNat IntKind.i64.bits)) (1 : Int) = (0 : Int))) : Bool) = bb; cases bb <;> rfl) ?_)
      refine Xg.ops_op (by kernel_rfl) (Xg.opx_pure ((Value.bool !decide (band IntKind.i64 (xx4.fdiv ((2 : Int) ^ min (↑j : Int).toNat IntKind.i64.bits)) (1 : Int) = (0 : Int)))) rfl (fun _ => by kernel_rfl) ?_)
      refine Xg.ops_flag (j := 136) (c := (!decide (band IntKind.i64 (xx4.fdiv ((2 : Int) ^ min (↑j : Int).toNat IntKind.i64.bits)) (1 : Int) = (0 : Int)))) (by kernel_rfl) (fun xh5 => absurd xh5 (by rw [decide_eq_true (p := (band IntKind.i64 (xx4.fdiv ((2 : Int) ^ min (↑j : Int).toNat IntKind.i64.bits)) (1 : Int) = (0 : Int))) (by omega)]; decide)) (fun _ => ?_)
      refine Xg.ops_op (by kernel_rfl) (Xg.opx_pure ((Value.int IntKind.i64 xx7)) rfl (fun _ => by kernel_rfl) ?_)
      refine Xg.ops_op (by kernel_rfl) (Xg.opx_pure ((Value.int IntKind.i64 (↑j : Int))) rfl (fun _ => by kernel_rfl) ?_)
      refine Xg.ops_op (by kernel_rfl) (Xg.opx_run (.int .i64 (Int.fdiv xx7 (2 ^ min (Int.toNat ((↑j : Int))) (IntKind.bits .i64)))) rfl (fun _ => Xg.run_shr (k1 := .i64) (k2 := .i64) (m := xx7) (e := ((↑j : Int))) (by kernel_rfl) (by kernel_rfl) (by omega)) ?_)
      refine Xg.ops_op (by kernel_rfl) (Xg.opx_pure (.int .i64 (Xg.band .i64 ((xx7.fdiv ((2 : Int) ^ min (↑j : Int).toNat IntKind.i64.bits))) (((1 : Int))))) rfl (fun _ => by kernel_rfl) ?_)
      refine Xg.ops_op (by kernel_rfl) (Xg.opx_pure (.bool (decide (((band IntKind.i64 (xx7.fdiv ((2 : Int) ^ min (↑j : Int).toNat IntKind.i64.bits)) (1 : Int)) : Int) = ((0 : Int))))) rfl (fun _ => by kernel_rfl) ?_)
      refine Xg.ops_op (by kernel_rfl) (Xg.opx_pure ((Value.bool false)) rfl (fun _ => by kernel_rfl) ?_)
      refine Xg.ops_op (by kernel_rfl) (Xg.opx_eq (v := ((Value.bool !decide (band IntKind.i64 (xx7.fdiv ((2 : Int) ^ min (↑j : Int).toNat IntKind.i64.bits)) (1 : Int) = (0 : Int)) == false))) (.bool (decide (band IntKind.i64 (xx7.fdiv ((2 : Int) ^ min (↑j : Int).toNat IntKind.i64.bits)) (1 : Int) = (0 : Int)))) rfl (fun _ => by kernel_rfl) (by generalize ((decide (band IntKind.i64 (xx7.fdiv ((2 : Int) ^ min (↑j : Int).toNat IntKind.i64.bits)) (1 : Int) = (0 : Int))) : Bool) = bb; cases bb <;> rfl) ?_)
      refine Xg.ops_flag (j := 143) (c := (decide (band IntKind.i64 (xx7.fdiv ((2 : Int) ^ min (↑j : Int).toNat IntKind.i64.bits)) (1 : Int) = (0 : Int)))) (by kernel_rfl) (fun xh5 => absurd (of_decide_eq_true xh5) (by omega)) (fun _ => ?_)
      refine Xg.ops_op (by kernel_rfl) (Xg.opx_pure ((Value.bool false)) rfl (fun _ => by kernel_rfl) ?_)
      refine Xg.ops_nil ?_
      refine Xg.at_false (t := false) (by kernel_rfl) rfl ?_
      refine Xg.at_skip ?_
      refine Xg.at_region ?_
      refine Xg.ops_op (by kernel_rfl) (Xg.opx_pure ((Value.bool f)) rfl (fun _ => by kernel_rfl) ?_)
      refine Xg.ops_op (by kernel_rfl) (Xg.opx_pure ((Value.bool f)) rfl (fun _ => by kernel_rfl) ?_)
      refine Xg.ops_flag (j := 146) (c := f) (by kernel_rfl) (fun xh5 => ?_) (fun xh5 => ?_)
      refine Xg.ops_skip (by kernel_rfl) ?_
      refine Xg.ops_skip (by kernel_rfl) ?_
      refine Xg.ops_skip (by kernel_rfl) ?_
      refine Xg.ops_skip (by kernel_rfl) ?_
      refine Xg.ops_skip (by kernel_rfl) ?_
      refine Xg.ops_op (by kernel_rfl) (Xg.opx_pure ((Value.bool true)) rfl (fun _ => by kernel_rfl) ?_)
      refine Xg.ops_op (by kernel_rfl) (Xg.opx_pure ((Value.bool true)) rfl (fun _ => by kernel_rfl) ?_)
      refine Xg.ops_nil ?_
      refine Xg.at_inBlock ?_
      refine Xg.at_region ?_
      refine Xg.ops_op (by kernel_rfl) (Xg.opx_pure ((Value.int IntKind.i64 (↑j : Int))) rfl (fun _ => by kernel_rfl) ?_)
      refine Xg.ops_op (by kernel_rfl) (Xg.opx_int .i64 (IntKind.wrap .i64 (((↑j : Int) + (1 : Int)))) rfl (fun _ => by kernel_rfl) (Xg.wrap_i64_in (by omega)) ?_)
      refine Xg.ops_op (by kernel_rfl) (Xg.opx_pure ((Value.int IntKind.i64 ((↑j : Int) + (1 : Int)))) rfl (fun _ => by kernel_rfl) ?_)
      refine Xg.ops_nil ?_
      refine Xg.at_inLoop ?_
      rotate_left
      refine Xg.ops_op (by kernel_rfl) (Xg.opx_pure ((Value.bool false)) rfl (fun _ => by kernel_rfl) ?_)
      refine Xg.ops_op (by kernel_rfl) (Xg.opx_pure ((Value.bool false)) rfl (fun _ => by kernel_rfl) ?_)
      refine Xg.ops_skip (by kernel_rfl) ?_
      refine Xg.ops_skip (by kernel_rfl) ?_
      refine Xg.ops_op (by kernel_rfl) (Xg.opx_pure ((Value.bool false)) rfl (fun _ => by kernel_rfl) ?_)
      refine Xg.ops_op (by kernel_rfl) (Xg.opx_pure ((Value.bool false)) rfl (fun _ => by kernel_rfl) ?_)
      refine Xg.ops_op (by kernel_rfl) (Xg.opx_pure ((Value.bool false)) rfl (fun _ => by kernel_rfl) ?_)
      refine Xg.ops_nil ?_
      refine Xg.at_inBlock ?_
      refine Xg.at_region ?_
      refine Xg.ops_op (by kernel_rfl) (Xg.opx_pure ((Value.int IntKind.i64 (↑j : Int))) rfl (fun _ => by kernel_rfl) ?_)
      refine Xg.ops_op (by kernel_rfl) (Xg.opx_int .i64 (IntKind.wrap .i64 (((↑j : Int) + (1 : Int)))) rfl (fun _ => by kernel_rfl) (Xg.wrap_i64_in (by omega)) ?_)
      refine Xg.ops_op (by kernel_rfl) (Xg.opx_pure ((Value.int IntKind.i64 ((↑j : Int) + (1 : Int)))) rfl (fun _ => by kernel_rfl) ?_)
      refine Xg.ops_nil ?_
      refine Xg.at_inLoop ?_
      rotate_left
      refine Xg.ops_op (by kernel_rfl) (Xg.opx_pure ((Value.bool false)) rfl (fun _ => by kernel_rfl) ?_)
      refine Xg.ops_op (by kernel_rfl) (Xg.opx_pure ((Value.bool false)) rfl (fun _ => by kernel_rfl) ?_)
      refine Xg.ops_op (by kernel_rfl) (Xg.opx_pure ((Value.bool false)) rfl (fun _ => by kernel_rfl) ?_)
      refine Xg.ops_nil ?_
      refine Xg.at_seq ?_
      refine Xg.at_region ?_
      refine Xg.ops_op (by kernel_rfl) (Xg.opx_pure ((Value.int IntKind.i64 (0 : Int))) rfl (fun _ => by kernel_rfl) ?_)
      refine Xg.ops_op (by kernel_rfl) (Xg.opx_pure ((Value.int IntKind.i64 (0 : Int))) rfl (fun _ => by kernel_rfl) ?_)
      refine Xg.ops_op (by kernel_rfl) (Xg.opx_pure ((Value.bool true)) rfl (fun _ => by kernel_rfl) ?_)
      refine Xg.ops_op (by kernel_rfl) (Xg.opx_pure ((Value.bool true)) rfl (fun _ => by kernel_rfl) ?_)
      refine Xg.ops_op (by kernel_rfl) (Xg.opx_pure ((Value.int IntKind.i64 (↑b : Int))) rfl (fun _ => by kernel_rfl) ?_)
      refine Xg.ops_op (by kernel_rfl) (Xg.opx_pure ((Value.int IntKind.i64 (↑j : Int))) rfl (fun _ => by kernel_rfl) ?_)
      refine Xg.ops_op (by kernel_rfl) (Xg.opx_run (.int .i64 (Int.fdiv ((↑b : Int)) (2 ^ min (Int.toNat ((↑j : Int))) (IntKind.bits .i64)))) rfl (fun _ => Xg.run_shr (k1 := .i64) (k2 := .i64) (m := ((↑b : Int))) (e := ((↑j : Int))) (by kernel_rfl) (by kernel_rfl) (by omega)) ?_)
      refine Xg.ops_op (by kernel_rfl) (Xg.opx_pure (.int .i64 (Xg.band .i64 (((↑b : Int).fdiv ((2 : Int) ^ min (↑j : Int).toNat IntKind.i64.bits))) (((1 : Int))))) rfl (fun _ => by kernel_rfl) ?_)
      refine Xg.ops_op (by kernel_rfl) (Xg.opx_pure (.bool (decide (((band IntKind.i64 ((↑b : Int).fdiv ((2 : Int) ^ min (↑j : Int).toNat IntKind.i64.bits)) (1 : Int)) : Int) = ((1 : Int))))) rfl (fun _ => by kernel_rfl) ?_)
      refine Xg.ops_flag (j := 114) (c := (decide (band IntKind.i64 ((↑b : Int).fdiv ((2 : Int) ^ min (↑j : Int).toNat IntKind.i64.bits)) (1 : Int) = (1 : Int)))) (by kernel_rfl) (fun xh3 => ?_) (fun xh3 => ?_)
      replace xh3 : (band IntKind.i64 ((↑b : Int).fdiv ((2 : Int) ^ min (↑j : Int).toNat IntKind.i64.bits)) (1 : Int) = (1 : Int)) := of_decide_eq_true xh3
      rotate_left
      replace xh3 : ¬ ((band IntKind.i64 ((↑b : Int).fdiv ((2 : Int) ^ min (↑j : Int).toNat IntKind.i64.bits)) (1 : Int) = (1 : Int))) := of_decide_eq_false xh3
      rotate_right
      refine Xg.ops_op (by kernel_rfl) (Xg.opx_pure ((Value.bool true)) rfl (fun _ => by kernel_rfl) ?_)
      refine Xg.ops_op (by kernel_rfl) (Xg.opx_pure ((Value.bool true)) rfl (fun _ => by kernel_rfl) ?_)
      refine Xg.ops_skip (by kernel_rfl) ?_
      refine Xg.ops_skip (by kernel_rfl) ?_
      refine Xg.ops_skip (by kernel_rfl) ?_
      refine Xg.ops_skip (by kernel_rfl) ?_
      refine Xg.ops_skip (by kernel_rfl) ?_
      refine Xg.ops_skip (by kernel_rfl) ?_
      refine Xg.ops_skip (by kernel_rfl) ?_
      refine Xg.ops_skip (by kernel_rfl) ?_
      refine Xg.ops_skip (by kernel_rfl) ?_
      refine Xg.ops_skip (by kernel_rfl) ?_
      refine Xg.ops_skip (by kernel_rfl) ?_
      refine Xg.ops_op (by kernel_rfl) (Xg.opx_pure ((Value.bool true)) rfl (fun _ => by kernel_rfl) ?_)
      refine Xg.ops_op (by kernel_rfl) (Xg.opx_pure ((Value.bool true)) rfl (fun _ => by kernel_rfl) ?_)
      refine Xg.ops_nil ?_
      refine Xg.at_seq ?_
      refine Xg.at_seq ?_
      refine Xg.at_region ?_
      refine Xg.ops_op (by kernel_rfl) (Xg.opx_pure ((Value.int IntKind.i64 xx4)) rfl (fun _ => by kernel_rfl) ?_)
      refine Xg.ops_op (by kernel_rfl) (Xg.opx_pure ((Value.int IntKind.i64 (↑j : Int))) rfl (fun _ => by kernel_rfl) ?_)
      refine Xg.ops_op (by kernel_rfl) (Xg.opx_run (.int .i64 (Int.fdiv xx4 (2 ^ min (Int.toNat ((↑j : Int))) (IntKind.bits .i64)))) rfl (fun _ => Xg.run_shr (k1 := .i64) (k2 := .i64) (m := xx4) (e := ((↑j : Int))) (by kernel_rfl) (by kernel_rfl) (by omega)) ?_)
      refine Xg.ops_op (by kernel_rfl) (Xg.opx_pure (.int .i64 (Xg.band .i64 ((xx4.fdiv ((2 : Int) ^ min (↑j : Int).toNat IntKind.i64.bits))) (((1 : Int))))) rfl (fun _ => by kernel_rfl) ?_)
      refine Xg.ops_op (by kernel_rfl) (Xg.opx_pure (.bool (decide (((band IntKind.i64 (xx4.fdiv ((2 : Int) ^ min (↑j : Int).toNat IntKind.i64.bits)) (1 : Int)) : Int) = ((0 : Int))))) rfl (fun _ => by kernel_rfl) ?_)
      refine Xg.ops_op (by kernel_rfl) (Xg.opx_pure ((Value.bool false)) rfl (fun _ => by kernel_rfl) ?_)
      refine Xg.ops_op (by kernel_rfl) (Xg.opx_eq (v := ((Value.bool !decide (band IntKind.i64 (xx4.fdiv ((2 : Int) ^ min (↑j : Int).toNat IntKind.i64.bits)) (1 : Int) = (0 : Int)) == false))) (.bool (decide (band IntKind.i64 (xx4.fdiv ((2 : Int) ^ min (↑j : Int).toNat IntKind.i64.bits)) (1 : Int) = (0 : Int)))) rfl (fun _ => by kernel_rfl) (by generalize ((decide (band IntKind.i64 (xx4.fdiv ((2 : Int) ^ min (↑j : Int).toNat IntKind.i64.bits)) (1 : Int) = (0 : Int))) : Bool) = bb; cases bb <;> rfl) ?_)
      refine Xg.ops_op (by kernel_rfl) (Xg.opx_pure ((Value.bool (decide (band IntKind.i64 (xx4.fdiv ((2 : Int) ^ min (↑j : Int).toNat IntKind.i64.bits)) (1 : Int) = (0 : Int))))) rfl (fun _ => by kernel_rfl) ?_)
      refine Xg.ops_flag (j := 136) (c := (decide (band IntKind.i64 (xx4.fdiv ((2 : Int) ^ min (↑j : Int).toNat IntKind.i64.bits)) (1 : Int) = (0 : Int)))) (by kernel_rfl) (fun xh4 => absurd (of_decide_eq_true xh4) (by omega)) (fun _ => ?_)
      refine Xg.ops_op (by kernel_rfl) (Xg.opx_pure ((Value.int IntKind.i64 xx7)) rfl (fun _ => by kernel_rfl) ?_)
      refine Xg.ops_op (by kernel_rfl) (Xg.opx_pure ((Value.int IntKind.i64 (↑j : Int))) rfl (fun _ => by kernel_rfl) ?_)
      refine Xg.ops_op (by kernel_rfl) (Xg.opx_run (.int .i64 (Int.fdiv xx7 (2 ^ min (Int.toNat ((↑j : Int))) (IntKind.bits .i64)))) rfl (fun _ => Xg.run_shr (k1 := .i64) (k2 := .i64) (m := xx7) (e := ((↑j : Int))) (by kernel_rfl) (by kernel_rfl) (by omega)) ?_)
      refine Xg.ops_op (by kernel_rfl) (Xg.opx_pure (.int .i64 (Xg.band .i64 ((xx7.fdiv ((2 : Int) ^ min (↑j : Int).toNat IntKind.i64.bits))) (((1 : Int))))) rfl (fun _ => by kernel_rfl) ?_)
      refine Xg.ops_op (by kernel_rfl) (Xg.opx_pure (.bool (decide (((band IntKind.i64 (xx7.fdiv ((2 : Int) ^ min (↑j : Int).toNat IntKind.i64.bits)) (1 : Int)) : Int) = ((0 : Int))))) rfl (fun _ => by kernel_rfl) ?_)
      refine Xg.ops_op (by kernel_rfl) (Xg.opx_pure ((Value.bool true)) rfl (fun _ => by kernel_rfl) ?_)
      refine Xg.ops_op (by kernel_rfl) (Xg.opx_eq (v := ((Value.bool !decide (band IntKind.i64 (xx7.fdiv ((2 : Int) ^ min (↑j : Int).toNat IntKind.i64.bits)) (1 : Int) = (0 : Int)) == true))) (.bool (!(decide (band IntKind.i64 (xx7.fdiv ((2 : Int) ^ min (↑j : Int).toNat IntKind.i64.bits)) (1 : Int) = (0 : Int))))) rfl (fun _ => by kernel_rfl) (by generalize ((decide (band IntKind.i64 (xx7.fdiv ((2 : Int) ^ min (↑j : Int).toNat IntKind.i64.bits)) (1 : Int) = (0 : Int))) : Bool) = bb; cases bb <;> rfl) ?_)
      refine Xg.ops_flag (j := 143) (c := (!decide (band IntKind.i64 (xx7.fdiv ((2 : Int) ^ min (↑j : Int).toNat IntKind.i64.bits)) (1 : Int) = (0 : Int)))) (by kernel_rfl) (fun xh4 => absurd xh4 (by rw [decide_eq_true (p := (band IntKind.i64 (xx7.fdiv ((2 : Int) ^ min (↑j : Int).toNat IntKind.i64.bits)) (1 : Int) = (0 : Int))) (by omega)]; decide)) (fun _ => ?_)
      refine Xg.ops_op (by kernel_rfl) (Xg.opx_pure ((Value.bool false)) rfl (fun _ => by kernel_rfl) ?_)
      refine Xg.ops_nil ?_
      refine Xg.at_false (t := false) (by kernel_rfl) rfl ?_
      refine Xg.at_skip ?_
      refine Xg.at_region ?_
      refine Xg.ops_op (by kernel_rfl) (Xg.opx_pure ((Value.bool f)) rfl (fun _ => by kernel_rfl) ?_)
      refine Xg.ops_op (by kernel_rfl) (Xg.opx_pure ((Value.bool f)) rfl (fun _ => by kernel_rfl) ?_)
      refine Xg.ops_flag (j := 146) (c := f) (by kernel_rfl) (fun xh4 => ?_) (fun xh4 => ?_)
      refine Xg.ops_skip (by kernel_rfl) ?_
      refine Xg.ops_skip (by kernel_rfl) ?_
      refine Xg.ops_skip (by kernel_rfl) ?_
      refine Xg.ops_skip (by kernel_rfl) ?_
      refine Xg.ops_skip (by kernel_rfl) ?_
      refine Xg.ops_op (by kernel_rfl) (Xg.opx_pure ((Value.bool true)) rfl (fun _ => by kernel_rfl) ?_)
      refine Xg.ops_op (by kernel_rfl) (Xg.opx_pure ((Value.bool true)) rfl (fun _ => by kernel_rfl) ?_)
      refine Xg.ops_nil ?_
      refine Xg.at_inBlock ?_
      refine Xg.at_region ?_
      refine Xg.ops_op (by kernel_rfl) (Xg.opx_pure ((Value.int IntKind.i64 (↑j : Int))) rfl (fun _ => by kernel_rfl) ?_)
      refine Xg.ops_op (by kernel_rfl) (Xg.opx_int .i64 (IntKind.wrap .i64 (((↑j : Int) + (1 : Int)))) rfl (fun _ => by kernel_rfl) (Xg.wrap_i64_in (by omega)) ?_)
      refine Xg.ops_op (by kernel_rfl) (Xg.opx_pure ((Value.int IntKind.i64 ((↑j : Int) + (1 : Int)))) rfl (fun _ => by kernel_rfl) ?_)
      refine Xg.ops_nil ?_
      refine Xg.at_inLoop ?_
      rotate_left
      refine Xg.ops_op (by kernel_rfl) (Xg.opx_pure ((Value.bool true)) rfl (fun _ => by kernel_rfl) ?_)
      refine Xg.ops_op (by kernel_rfl) (Xg.opx_pure ((Value.bool true)) rfl (fun _ => by kernel_rfl) ?_)
      refine Xg.ops_op (by kernel_rfl) (Xg.opx_pure ((Value.bool false)) rfl (fun _ => by kernel_rfl) ?_)
      refine Xg.ops_op (by kernel_rfl) (Xg.opx_pure (.bool true) rfl (fun _ => by kernel_rfl) ?_)
      refine Xg.ops_op (by kernel_rfl) (Xg.opx_pure ((Value.bool true)) rfl (fun _ => by kernel_rfl) ?_)
      refine Xg.ops_op (by kernel_rfl) (Xg.opx_pure ((Value.bool true)) rfl (fun _ => by kernel_rfl) ?_)
      refine Xg.ops_op (by kernel_rfl) (Xg.opx_pure ((Value.bool true)) rfl (fun _ => by kernel_rfl) ?_)
      refine Xg.ops_nil ?_
      refine Xg.at_inBlock ?_
      refine Xg.at_region ?_
      refine Xg.ops_op (by kernel_rfl) (Xg.opx_pure ((Value.int IntKind.i64 (↑j : Int))) rfl (fun _ => by kernel_rfl) ?_)
      refine Xg.ops_op (by kernel_rfl) (Xg.opx_int .i64 (IntKind.wrap .i64 (((↑j : Int) + (1 : Int)))) rfl (fun _ => by kernel_rfl) (Xg.wrap_i64_in (by omega)) ?_)
      refine Xg.ops_op (by kernel_rfl) (Xg.opx_pure ((Value.int IntKind.i64 ((↑j : Int) + (1 : Int)))) rfl (fun _ => by kernel_rfl) ?_)
      refine Xg.ops_nil ?_
      refine Xg.at_inLoop ?_
      rotate_left
      refine Xg.ops_op (by kernel_rfl) (Xg.opx_pure ((Value.bool false)) rfl (fun _ => by kernel_rfl) ?_)
      refine Xg.ops_op (by kernel_rfl) (Xg.opx_pure ((Value.bool false)) rfl (fun _ => by kernel_rfl) ?_)
      refine Xg.ops_op (by kernel_rfl) (Xg.opx_pure ((Value.int IntKind.i64 (0 : Int))) rfl (fun _ => by kernel_rfl) ?_)
      refine Xg.ops_op (by kernel_rfl) (Xg.opx_pure ((Value.int IntKind.i64 (0 : Int))) rfl (fun _ => by kernel_rfl) ?_)
      refine Xg.ops_op (by kernel_rfl) (Xg.opx_pure ((Value.bool true)) rfl (fun _ => by kernel_rfl) ?_)
      refine Xg.ops_op (by kernel_rfl) (Xg.opx_pure ((Value.bool true)) rfl (fun _ => by kernel_rfl) ?_)
      refine Xg.ops_op (by kernel_rfl) (Xg.opx_pure ((Value.int IntKind.i64 (↑b : Int))) rfl (fun _ => by kernel_rfl) ?_)
      refine Xg.ops_op (by kernel_rfl) (Xg.opx_pure ((Value.int IntKind.i64 (↑j : Int))) rfl (fun _ => by kernel_rfl) ?_)
      refine Xg.ops_op (by kernel_rfl) (Xg.opx_int .i64 (IntKind.wrap .i64 (((4 : Int) + (↑j : Int)))) rfl (fun _ => by kernel_rfl) (Xg.wrap_i64_in (by omega)) ?_)
      refine Xg.ops_op (by kernel_rfl) (Xg.opx_run (.int .i64 (Int.fdiv ((↑b : Int)) (2 ^ min (Int.toNat ((4 : Int) + (↑j : Int))) (IntKind.bits .i64)))) rfl (fun _ => Xg.run_shr (k1 := .i64) (k2 := .i64) (m := ((↑b : Int))) (e := ((4 : Int) + (↑j : Int))) (by kernel_rfl) (by kernel_rfl) (by omega)) ?_)
      refine Xg.ops_op (by kernel_rfl) (Xg.opx_pure (.int .i64 (Xg.band .i64 (((↑b : Int).fdiv ((2 : Int) ^ min ((4 : Int) + (↑j : Int)).toNat IntKind.i64.bits))) (((1 : Int))))) rfl (fun _ => by kernel_rfl) ?_)
      refine Xg.ops_op (by kernel_rfl) (Xg.opx_pure (.bool (decide (((band IntKind.i64 ((↑b : Int).fdiv ((2 : Int) ^ min ((4 : Int) + (↑j : Int)).toNat IntKind.i64.bits)) (1 : Int)) : Int) = ((1 : Int))))) rfl (fun _ => by kernel_rfl) ?_)
      refine Xg.ops_flag (j := 126) (c := (decide (band IntKind.i64 ((↑b : Int).fdiv ((2 : Int) ^ min ((4 : Int) + (↑j : Int)).toNat IntKind.i64.bits)) (1 : Int) = (1 : Int)))) (by kernel_rfl) (fun xh4 => ?_) (fun xh4 => ?_)
      replace xh4 : (band IntKind.i64 ((↑b : Int).fdiv ((2 : Int) ^ min ((4 : Int) + (↑j : Int)).toNat IntKind.i64.bits)) (1 : Int) = (1 : Int)) := of_decide_eq_true xh4
      rotate_left
      replace xh4 : ¬ ((band IntKind.i64 ((↑b : Int).fdiv ((2 : Int) ^ min ((4 : Int) + (↑j : Int)).toNat IntKind.i64.bits)) (1 : Int) = (1 : Int))) := of_decide_eq_false xh4
      rotate_right
      refine Xg.ops_op (by kernel_rfl) (Xg.opx_pure ((Value.bool true)) rfl (fun _ => by kernel_rfl) ?_)
      refine Xg.ops_op (by kernel_rfl) (Xg.opx_pure ((Value.bool true)) rfl (fun _ => by kernel_rfl) ?_)
      refine Xg.ops_op (by kernel_rfl) (Xg.opx_pure ((Value.bool true)) rfl (fun _ => by kernel_rfl) ?_)
      refine Xg.ops_nil ?_
      refine Xg.at_seq ?_
      refine Xg.at_seq ?_
      refine Xg.at_region ?_
      refine Xg.ops_op (by kernel_rfl) (Xg.opx_pure ((Value.int IntKind.i64 xx4)) rfl (fun _ => by kernel_rfl) ?_)
      refine Xg.ops_op (by kernel_rfl) (Xg.opx_pure ((Value.int IntKind.i64 (↑j : Int))) rfl (fun _ => by kernel_rfl) ?_)
      refine Xg.ops_op (by kernel_rfl) (Xg.opx_run (.int .i64 (Int.fdiv xx4 (2 ^ min (Int.toNat ((↑j : Int))) (IntKind.bits .i64)))) rfl (fun _ => Xg.run_shr (k1 := .i64) (k2 := .i64) (m := xx4) (e := ((↑j : Int))) (by kernel_rfl) (by kernel_rfl) (by omega)) ?_)
      refine Xg.ops_op (by kernel_rfl) (Xg.opx_pure (.int .i64 (Xg.band .i64 ((xx4.fdiv ((2 : Int) ^ min (↑j : Int).toNat IntKind.i64.bits))) (((1 : Int))))) rfl (fun _ => by kernel_rfl) ?_)
      refine Xg.ops_op (by kernel_rfl) (Xg.opx_pure (.bool (decide (((band IntKind.i64 (xx4.fdiv ((2 : Int) ^ min (↑j : Int).toNat IntKind.i64.bits)) (1 : Int)) : Int) = ((0 : Int))))) rfl (fun _ => by kernel_rfl) ?_)
      refine Xg.ops_op (by kernel_rfl) (Xg.opx_pure ((Value.bool false)) rfl (fun _ => by kernel_rfl) ?_)
      refine Xg.ops_op (by kernel_rfl) (Xg.opx_eq (v := ((Value.bool !decide (band IntKind.i64 (xx4.fdiv ((2 : Int) ^ min (↑j : Int).toNat IntKind.i64.bits)) (1 : Int) = (0 : Int)) == false))) (.bool (decide (band IntKind.i64 (xx4.fdiv ((2 : Int) ^ min (↑j : Int).toNat IntKind.i64.bits)) (1 : Int) = (0 : Int)))) rfl (fun _ => by kernel_rfl) (by generalize ((decide (band IntKind.i64 (xx4.fdiv ((2 : Int) ^ min (↑j : Int).toNat IntKind.i64.bits)) (1 : Int) = (0 : Int))) : Bool) = bb; cases bb <;> rfl) ?_)
      refine Xg.ops_op (by kernel_rfl) (Xg.opx_pure ((Value.bool (decide (band IntKind.i64 (xx4.fdiv ((2 : Int) ^ min (↑j : Int).toNat IntKind.i64.bits)) (1 : Int) = (0 : Int))))) rfl (fun _ => by kernel_rfl) ?_)
      refine Xg.ops_flag (j := 136) (c := (decide (band IntKind.i64 (xx4.fdiv ((2 : Int) ^ min (↑j : Int).toNat IntKind.i64.bits)) (1 : Int) = (0 : Int)))) (by kernel_rfl) (fun xh5 => absurd (of_decide_eq_true xh5) (by omega)) (fun _ => ?_)
      refine Xg.ops_op (by kernel_rfl) (Xg.opx_pure ((Value.int IntKind.i64 xx7)) rfl (fun _ => by kernel_rfl) ?_)
      refine Xg.ops_op (by kernel_rfl) (Xg.opx_pure ((Value.int IntKind.i64 (↑j : Int))) rfl (fun _ => by kernel_rfl) ?_)
      refine Xg.ops_op (by kernel_rfl) (Xg.opx_run (.int .i64 (Int.fdiv xx7 (2 ^ min (Int.toNat ((↑j : Int))) (IntKind.bits .i64)))) rfl (fun _ => Xg.run_shr (k1 := .i64) (k2 := .i64) (m := xx7) (e := ((↑j : Int))) (by kernel_rfl) (by kernel_rfl) (by omega)) ?_)
      refine Xg.ops_op (by kernel_rfl) (Xg.opx_pure (.int .i64 (Xg.band .i64 ((xx7.fdiv ((2 : Int) ^ min (↑j : Int).toNat IntKind.i64.bits))) (((1 : Int))))) rfl (fun _ => by kernel_rfl) ?_)
      refine Xg.ops_op (by kernel_rfl) (Xg.opx_pure (.bool (decide (((band IntKind.i64 (xx7.fdiv ((2 : Int) ^ min (↑j : Int).toNat IntKind.i64.bits)) (1 : Int)) : Int) = ((0 : Int))))) rfl (fun _ => by kernel_rfl) ?_)
      refine Xg.ops_op (by kernel_rfl) (Xg.opx_pure ((Value.bool true)) rfl (fun _ => by kernel_rfl) ?_)
      refine Xg.ops_op (by kernel_rfl) (Xg.opx_eq (v := ((Value.bool !decide (band IntKind.i64 (xx7.fdiv ((2 : Int) ^ min (↑j : Int).toNat IntKind.i64.bits)) (1 : Int) = (0 : Int)) == true))) (.bool (!(decide (band IntKind.i64 (xx7.fdiv ((2 : Int) ^ min (↑j : Int).toNat IntKind.i64.bits)) (1 : Int) = (0 : Int))))) rfl (fun _ => by kernel_rfl) (by generalize ((decide (band IntKind.i64 (xx7.fdiv ((2 : Int) ^ min (↑j : Int).toNat IntKind.i64.bits)) (1 : Int) = (0 : Int))) : Bool) = bb; cases bb <;> rfl) ?_)
      refine Xg.ops_flag (j := 143) (c := (!decide (band IntKind.i64 (xx7.fdiv ((2 : Int) ^ min (↑j : Int).toNat IntKind.i64.bits)) (1 : Int) = (0 : Int)))) (by kernel_rfl) (fun xh5 => absurd xh5 (by rw [decide_eq_true (p := (band IntKind.i64 (xx7.fdiv ((2 : Int) ^ min (↑j : Int).toNat IntKind.i64.bits)) (1 : Int) = (0 : Int))) (by omega)]; decide)) (fun _ => ?_)
      refine Xg.ops_op (by kernel_rfl) (Xg.opx_pure ((Value.bool false)) rfl (fun _ => by kernel_rfl) ?_)
      refine Xg.ops_nil ?_
      refine Xg.at_false (t := false) (by kernel_rfl) rfl ?_
      refine Xg.at_skip ?_
      refine Xg.at_region ?_
      refine Xg.ops_op (by kernel_rfl) (Xg.opx_pure ((Value.bool f)) rfl (fun _ => by kernel_rfl) ?_)
      refine Xg.ops_op (by kernel_rfl) (Xg.opx_pure ((Value.bool f)) rfl (fun _ => by kernel_rfl) ?_)
      refine Xg.ops_flag (j := 146) (c := f) (by kernel_rfl) (fun xh5 => ?_) (fun xh5 => ?_)
      refine Xg.ops_skip (by kernel_rfl) ?_
      refine Xg.ops_skip (by kernel_rfl) ?_
      refine Xg.ops_skip (by kernel_rfl) ?_
      refine Xg.ops_skip (by kernel_rfl) ?_
      refine Xg.ops_skip (by kernel_rfl) ?_
      refine Xg.ops_op (by kernel_rfl) (Xg.opx_pure ((Value.bool true)) rfl (fun _ => by kernel_rfl) ?_)
      refine Xg.ops_op (by kernel_rfl) (Xg.opx_pure ((Value.bool true)) rfl (fun _ => by kernel_rfl) ?_)
      refine Xg.ops_nil ?_
      refine Xg.at_inBlock ?_
      refine Xg.at_region ?_
      refine Xg.ops_op (by kernel_rfl) (Xg.opx_pure ((Value.int IntKind.i64 (↑j : Int))) rfl (fun _ => by kernel_rfl) ?_)
      refine Xg.ops_op (by kernel_rfl) (Xg.opx_int .i64 (IntKind.wrap .i64 (((↑j : Int) + (1 : Int)))) rfl (fun _ => by kernel_rfl) (Xg.wrap_i64_in (by omega)) ?_)
      refine Xg.ops_op (by kernel_rfl) (Xg.opx_pure ((Value.int IntKind.i64 ((↑j : Int) + (1 : Int)))) rfl (fun _ => by kernel_rfl) ?_)
      refine Xg.ops_nil ?_
      refine Xg.at_inLoop ?_
      rotate_left
      refine Xg.ops_op (by kernel_rfl) (Xg.opx_pure ((Value.bool true)) rfl (fun _ => by kernel_rfl) ?_)
      refine Xg.ops_op (by kernel_rfl) (Xg.opx_pure ((Value.bool true)) rfl (fun _ => by kernel_rfl) ?_)
      refine Xg.ops_op (by kernel_rfl) (Xg.opx_pure ((Value.bool false)) rfl (fun _ => by kernel_rfl) ?_)
      refine Xg.ops_op (by kernel_rfl) (Xg.opx_pure (.bool true) rfl (fun _ => by kernel_rfl) ?_)
      refine Xg.ops_op (by kernel_rfl) (Xg.opx_pure ((Value.bool true)) rfl (fun _ => by kernel_rfl) ?_)
      refine Xg.ops_op (by kernel_rfl) (Xg.opx_pure ((Value.bool true)) rfl (fun _ => by kernel_rfl) ?_)
      refine Xg.ops_op (by kernel_rfl) (Xg.opx_pure ((Value.bool true)) rfl (fun _ => by kernel_rfl) ?_)
      refine Xg.ops_nil ?_
      refine Xg.at_inBlock ?_
      refine Xg.at_region ?_
      refine Xg.ops_op (by kernel_rfl) (Xg.opx_pure ((Value.int IntKind.i64 (↑j : Int))) rfl (fun _ => by kernel_rfl) ?_)
      refine Xg.ops_op (by kernel_rfl) (Xg.opx_int .i64 (IntKind.wrap .i64 (((↑j : Int) + (1 : Int)))) rfl (fun _ => by kernel_rfl) (Xg.wrap_i64_in (by omega)) ?_)
      refine Xg.ops_op (by kernel_rfl) (Xg.opx_pure ((Value.int IntKind.i64 ((↑j : Int) + (1 : Int)))) rfl (fun _ => by kernel_rfl) ?_)
      refine Xg.ops_nil ?_
      refine Xg.at_inLoop ?_
      rotate_left
      refine Xg.ops_op (by kernel_rfl) (Xg.opx_pure ((Value.bool false)) rfl (fun _ => by kernel_rfl) ?_)
      refine Xg.ops_op (by kernel_rfl) (Xg.opx_pure ((Value.bool false)) rfl (fun _ => by kernel_rfl) ?_)
      refine Xg.ops_op (by kernel_rfl) (Xg.opx_pure ((Value.bool false)) rfl (fun _ => by kernel_rfl) ?_)
      refine Xg.ops_nil ?_
      refine Xg.at_seq ?_
      refine Xg.at_seq ?_
      refine Xg.at_region ?_
      refine Xg.ops_op (by kernel_rfl) (Xg.opx_pure ((Value.int IntKind.i64 xx4)) rfl (fun _ => by kernel_rfl) ?_)
      refine Xg.ops_op (by kernel_rfl) (Xg.opx_pure ((Value.int IntKind.i64 (↑j : Int))) rfl (fun _ => by kernel_rfl) ?_)
      refine Xg.ops_op (by kernel_rfl) (Xg.opx_run (.int .i64 (Int.fdiv xx4 (2 ^ min (Int.toNat ((↑j : Int))) (IntKind.bits .i64)))) rfl (fun _ => Xg.run_shr (k1 := .i64) (k2 := .i64) (m := xx4) (e := ((↑j : Int))) (by kernel_rfl) (by kernel_rfl) (by omega)) ?_)
      refine Xg.ops_op (by kernel_rfl) (Xg.opx_pure (.int .i64 (Xg.band .i64 ((xx4.fdiv ((2 : Int) ^ min (↑j : Int).toNat IntKind.i64.bits))) (((1 : Int))))) rfl (fun _ => by kernel_rfl) ?_)
      refine Xg.ops_op (by kernel_rfl) (Xg.opx_pure (.bool (decide (((band IntKind.i64 (xx4.fdiv ((2 : Int) ^ min (↑j : Int).toNat IntKind.i64.bits)) (1 : Int)) : Int) = ((0 : Int))))) rfl (fun _ => by kernel_rfl) ?_)
      refine Xg.ops_op (by kernel_rfl) (Xg.opx_pure ((Value.bool false)) rfl (fun _ => by kernel_rfl) ?_)
      refine Xg.ops_op (by kernel_rfl) (Xg.opx_eq (v := ((Value.bool !decide (band IntKind.i64 (xx4.fdiv ((2 : Int) ^ min (↑j : Int).toNat IntKind.i64.bits)) (1 : Int) = (0 : Int)) == false))) (.bool (decide (band IntKind.i64 (xx4.fdiv ((2 : Int) ^ min (↑j : Int).toNat IntKind.i64.bits)) (1 : Int) = (0 : Int)))) rfl (fun _ => by kernel_rfl) (by generalize ((decide (band IntKind.i64 (xx4.fdiv ((2 : Int) ^ min (↑j : Int).toNat IntKind.i64.bits)) (1 : Int) = (0 : Int))) : Bool) = bb; cases bb <;> rfl) ?_)
      refine Xg.ops_op (by kernel_rfl) (Xg.opx_pure ((Value.bool (decide (band IntKind.i64 (xx4.fdiv ((2 : Int) ^ min (↑j : Int).toNat IntKind.i64.bits)) (1 : Int) = (0 : Int))))) rfl (fun _ => by kernel_rfl) ?_)
      refine Xg.ops_flag (j := 136) (c := (decide (band IntKind.i64 (xx4.fdiv ((2 : Int) ^ min (↑j : Int).toNat IntKind.i64.bits)) (1 : Int) = (0 : Int)))) (by kernel_rfl) (fun xh5 => absurd (of_decide_eq_true xh5) (by omega)) (fun _ => ?_)
      refine Xg.ops_op (by kernel_rfl) (Xg.opx_pure ((Value.int IntKind.i64 xx7)) rfl (fun _ => by kernel_rfl) ?_)
      refine Xg.ops_op (by kernel_rfl) (Xg.opx_pure ((Value.int IntKind.i64 (↑j : Int))) rfl (fun _ => by kernel_rfl) ?_)
      refine Xg.ops_op (by kernel_rfl) (Xg.opx_run (.int .i64 (Int.fdiv xx7 (2 ^ min (Int.toNat ((↑j : Int))) (IntKind.bits .i64)))) rfl (fun _ => Xg.run_shr (k1 := .i64) (k2 := .i64) (m := xx7) (e := ((↑j : Int))) (by kernel_rfl) (by kernel_rfl) (by omega)) ?_)
      refine Xg.ops_op (by kernel_rfl) (Xg.opx_pure (.int .i64 (Xg.band .i64 ((xx7.fdiv ((2 : Int) ^ min (↑j : Int).toNat IntKind.i64.bits))) (((1 : Int))))) rfl (fun _ => by kernel_rfl) ?_)
      refine Xg.ops_op (by kernel_rfl) (Xg.opx_pure (.bool (decide (((band IntKind.i64 (xx7.fdiv ((2 : Int) ^ min (↑j : Int).toNat IntKind.i64.bits)) (1 : Int)) : Int) = ((0 : Int))))) rfl (fun _ => by kernel_rfl) ?_)
      refine Xg.ops_op (by kernel_rfl) (Xg.opx_pure ((Value.bool false)) rfl (fun _ => by kernel_rfl) ?_)
      refine Xg.ops_op (by kernel_rfl) (Xg.opx_eq (v := ((Value.bool !decide (band IntKind.i64 (xx7.fdiv ((2 : Int) ^ min (↑j : Int).toNat IntKind.i64.bits)) (1 : Int) = (0 : Int)) == false))) (.bool (decide (band IntKind.i64 (xx7.fdiv ((2 : Int) ^ min (↑j : Int).toNat IntKind.i64.bits)) (1 : Int) = (0 : Int)))) rfl (fun _ => by kernel_rfl) (by generalize ((decide (band IntKind.i64 (xx7.fdiv ((2 : Int) ^ min (↑j : Int).toNat IntKind.i64.bits)) (1 : Int) = (0 : Int))) : Bool) = bb; cases bb <;> rfl) ?_)
      refine Xg.ops_flag (j := 143) (c := (decide (band IntKind.i64 (xx7.fdiv ((2 : Int) ^ min (↑j : Int).toNat IntKind.i64.bits)) (1 : Int) = (0 : Int)))) (by kernel_rfl) (fun xh5 => absurd (of_decide_eq_true xh5) (by omega)) (fun _ => ?_)
      refine Xg.ops_op (by kernel_rfl) (Xg.opx_pure ((Value.bool false)) rfl (fun _ => by kernel_rfl) ?_)
      refine Xg.ops_nil ?_
      refine Xg.at_false (t := false) (by kernel_rfl) rfl ?_
      refine Xg.at_skip ?_
      refine Xg.at_region ?_
      refine Xg.ops_op (by kernel_rfl) (Xg.opx_pure ((Value.bool f)) rfl (fun _ => by kernel_rfl) ?_)
      refine Xg.ops_op (by kernel_rfl) (Xg.opx_pure ((Value.bool f)) rfl (fun _ => by kernel_rfl) ?_)
      refine Xg.ops_flag (j := 146) (c := f) (by kernel_rfl) (fun xh5 => ?_) (fun xh5 => ?_)
      refine Xg.ops_skip (by kernel_rfl) ?_
      refine Xg.ops_skip (by kernel_rfl) ?_
      refine Xg.ops_skip (by kernel_rfl) ?_
      refine Xg.ops_skip (by kernel_rfl) ?_
      refine Xg.ops_skip (by kernel_rfl) ?_
      refine Xg.ops_op (by kernel_rfl) (Xg.opx_pure ((Value.bool true)) rfl (fun _ => by kernel_rfl) ?_)
      refine Xg.ops_op (by kernel_rfl) (Xg.opx_pure ((Value.bool true)) rfl (fun _ => by kernel_rfl) ?_)
      refine Xg.ops_nil ?_
      refine Xg.at_inBlock ?_
      refine Xg.at_region ?_
      refine Xg.ops_op (by kernel_rfl) (Xg.opx_pure ((Value.int IntKind.i64 (↑j : Int))) rfl (fun _ => by kernel_rfl) ?_)
      refine Xg.ops_op (by kernel_rfl) (Xg.opx_int .i64 (IntKind.wrap .i64 (((↑j : Int) + (1 : Int)))) rfl (fun _ => by kernel_rfl) (Xg.wrap_i64_in (by omega)) ?_)
      refine Xg.ops_op (by kernel_rfl) (Xg.opx_pure ((Value.int IntKind.i64 ((↑j : Int) + (1 : Int)))) rfl (fun _ => by kernel_rfl) ?_)
      refine Xg.ops_nil ?_
      refine Xg.at_inLoop ?_
      rotate_left
      refine Xg.ops_op (by kernel_rfl) (Xg.opx_pure ((Value.bool false)) rfl (fun _ => by kernel_rfl) ?_)
      refine Xg.ops_op (by kernel_rfl) (Xg.opx_pure ((Value.bool false)) rfl (fun _ => by kernel_rfl) ?_)
      refine Xg.ops_skip (by kernel_rfl) ?_
      refine Xg.ops_skip (by kernel_rfl) ?_
      refine Xg.ops_op (by kernel_rfl) (Xg.opx_pure ((Value.bool false)) rfl (fun _ => by kernel_rfl) ?_)
      refine Xg.ops_op (by kernel_rfl) (Xg.opx_pure ((Value.bool false)) rfl (fun _ => by kernel_rfl) ?_)
      refine Xg.ops_op (by kernel_rfl) (Xg.opx_pure ((Value.bool false)) rfl (fun _ => by kernel_rfl) ?_)
      refine Xg.ops_nil ?_
      refine Xg.at_inBlock ?_
      refine Xg.at_region ?_
      refine Xg.ops_op (by kernel_rfl) (Xg.opx_pure ((Value.int IntKind.i64 (↑j : Int))) rfl (fun _ => by kernel_rfl) ?_)
      refine Xg.ops_op (by kernel_rfl) (Xg.opx_int .i64 (IntKind.wrap .i64 (((↑j : Int) + (1 : Int)))) rfl (fun _ => by kernel_rfl) (Xg.wrap_i64_in (by omega)) ?_)
      refine Xg.ops_op (by kernel_rfl) (Xg.opx_pure ((Value.int IntKind.i64 ((↑j : Int) + (1 : Int)))) rfl (fun _ => by kernel_rfl) ?_)
      refine Xg.ops_nil ?_
      refine Xg.at_inLoop ?_)
    all_goals
      first
        | (refine Xg.at_back [0, 1, 2, 3] (by kernel_rfl) (fun J' => ih ((j + 1, true), J') ⟨by dsimp only; omega, ?_⟩ (by dsimp only; omega)) (by kernel_rfl) (by kernel_rfl)
           rw [hn1]
           rcases (show x0 = 0 ∨ x0 = 1 by omega) with e | e <;> rcases (show y0 = 0 ∨ y0 = 1 by omega) with e2 | e2 <;> rw [e, e2] <;> clear hn1 ih <;> cases f <;> first | rfl | (exfalso; omega) | contradiction)
        | (refine Xg.at_back [0, 1, 2, 3] (by kernel_rfl) (fun J' => ih ((j + 1, false), J') ⟨by dsimp only; omega, ?_⟩ (by dsimp only; omega)) (by kernel_rfl) (by kernel_rfl)
           rw [hn1]
           rcases (show x0 = 0 ∨ x0 = 1 by omega) with e | e <;> rcases (show y0 = 0 ∨ y0 = 1 by omega) with e2 | e2 <;> rw [e, e2] <;> clear hn1 ih <;> cases f <;> first | rfl | (exfalso; omega) | contradiction)
        | (exfalso; omega)
  · clear ih
    obtain rfl : j = 4 := by omega
    rw [← hf] at hq
    cases f with
    | false =>
      rw [if_neg (by decide)] at hq
      (focus
        refine Xg.at_seq ?_
        refine Xg.at_seq ?_
        refine Xg.at_region ?_
        refine Xg.ops_op (by kernel_rfl) (Xg.opx_pure ((Value.int IntKind.i64 (4 : Int))) rfl (fun _ => by kernel_rfl) ?_)
        refine Xg.ops_op (by kernel_rfl) (Xg.opx_pure ((Value.bool false)) rfl (fun _ => by kernel_rfl) ?_)
        refine Xg.ops_nil ?_
        refine Xg.at_false (t := false) (by kernel_rfl) rfl ?_
        refine Xg.at_exit rfl ?_
        refine Xg.at_seq ?_
        refine Xg.at_region ?_
        refine Xg.ops_op (by kernel_rfl) (Xg.opx_pure ((Value.int IntKind.i64 xx4)) rfl (fun _ => by kernel_rfl) ?_)
        refine Xg.ops_op (by kernel_rfl) (Xg.opx_pure (.int .i64 (Xg.band .i64 (xx4) (((240 : Int))))) rfl (fun _ => by kernel_rfl) ?_)
        refine Xg.ops_op (by kernel_rfl) (Xg.opx_pure ((Value.int IntKind.i64 (0 : Int))) rfl (fun _ => by kernel_rfl) ?_)
        refine Xg.ops_op (by kernel_rfl) (Xg.opx_pure ((Value.int IntKind.i64 (192 : Int))) rfl (fun _ => by kernel_rfl) ?_)
        refine Xg.ops_op (by kernel_rfl) (Xg.opx_pure (.bool (decide (((band IntKind.i64 xx4 (240 : Int)) : Int) = ((192 : Int))))) rfl (fun _ => by kernel_rfl) ?_)
        refine Xg.ops_op (by kernel_rfl) (Xg.opx_pure ((Value.bool (decide (band IntKind.i64 xx4 (240 : Int) = (192 : Int))))) rfl (fun _ => by kernel_rfl) ?_)
        refine Xg.ops_flag (j := 158) (c := (decide (band IntKind.i64 xx4 (240 : Int) = (192 : Int)))) (by kernel_rfl) (fun _ => ?_) (fun xh8 => absurd (of_decide_eq_false xh8) (by omega))
        refine Xg.ops_op (by kernel_rfl) (Xg.opx_pure ((Value.int IntKind.i64 xx7)) rfl (fun _ => by kernel_rfl) ?_)
        refine Xg.ops_op (by kernel_rfl) (Xg.opx_pure (.int .i64 (Xg.band .i64 (xx7) (((240 : Int))))) rfl (fun _ => by kernel_rfl) ?_)
        refine Xg.ops_op (by kernel_rfl) (Xg.opx_pure ((Value.int IntKind.i64 (0 : Int))) rfl (fun _ => by kernel_rfl) ?_)
        refine Xg.ops_op (by kernel_rfl) (Xg.opx_pure ((Value.int IntKind.i64 (192 : Int))) rfl (fun _ => by kernel_rfl) ?_)
        refine Xg.ops_op (by kernel_rfl) (Xg.opx_pure (.bool (decide (((band IntKind.i64 xx7 (240 : Int)) : Int) = ((192 : Int))))) rfl (fun _ => by kernel_rfl) ?_)
        refine Xg.ops_flag (j := 163) (c := (decide (band IntKind.i64 xx7 (240 : Int) = (192 : Int)))) (by kernel_rfl) (fun _ => ?_) (fun xh8 => absurd (of_decide_eq_false xh8) (by omega))
        refine Xg.ops_op (by kernel_rfl) (Xg.opx_pure ((Value.bool true)) rfl (fun _ => by kernel_rfl) ?_)
        refine Xg.ops_op (by kernel_rfl) (Xg.opx_pure ((Value.bool true)) rfl (fun _ => by kernel_rfl) ?_)
        refine Xg.ops_op (by kernel_rfl) (Xg.opx_pure ((Value.pointer (some (Addr.mk xx1.fst (0 : Nat) none)))) rfl (fun _ => by kernel_rfl) ?_)
        refine Xg.ops_op (by kernel_rfl) (Xg.opx_call1' [0] [PoR xx1.fst xx6 (Value.slice xx1.snd.fst xs.length xx1.snd.snd), Drv te, bts xx1.snd.fst xx1.snd.snd xs, A] (fun _ => by kernel_rfl) (@Go.Proofs.YtncdmccdclhokaaDoor.requests_d (xx1.fst) (xx6) ((Value.slice xx1.snd.fst xs.length xx1.snd.snd)) (by omega)) (by kernel_rfl) (by kernel_rfl) (by kernel_rfl) ?_)
        refine Xg.ops_op (by kernel_rfl) (Xg.opx_pure (.int .i64 (Xg.band .i64 (xx6.requests) (((16 : Int))))) rfl (fun _ => by kernel_rfl) ?_)
        refine Xg.ops_op (by kernel_rfl) (Xg.opx_pure (.bool (!decide (((band IntKind.i64 xx6.requests (16 : Int)) : Int) = ((0 : Int))))) rfl (fun _ => by kernel_rfl) ?_)
        refine Xg.ops_op (by kernel_rfl) (Xg.opx_pure ((Value.bool false)) rfl (fun _ => by kernel_rfl) ?_)
        refine Xg.ops_op (by kernel_rfl) (Xg.opx_eq (v := ((Value.bool ((!decide (band IntKind.i64 xx6.requests (16 : Int) = (0 : Int))) == false)))) (.bool (decide (band IntKind.i64 xx6.requests (16 : Int) = (0 : Int)))) rfl (fun _ => by kernel_rfl) (by generalize ((decide (band IntKind.i64 xx6.requests (16 : Int) = (0 : Int))) : Bool) = bb; cases bb <;> rfl) ?_)
        refine Xg.ops_flag (j := 171) (c := (decide (band IntKind.i64 xx6.requests (16 : Int) = (0 : Int)))) (by kernel_rfl) (fun _ => ?_) (fun xh8 => absurd (of_decide_eq_false xh8) (by omega))
        refine Xg.ops_op (by kernel_rfl) (Xg.opx_pure ((Value.bool true)) rfl (fun _ => by kernel_rfl) ?_)
        refine Xg.ops_op (by kernel_rfl) (Xg.opx_pure ((Value.bool true)) rfl (fun _ => by kernel_rfl) ?_)
        refine Xg.ops_nil ?_
        refine Xg.at_ret_ps (v := (Value.bool true)) [1, 3] [Drv te, A] Go.Proofs.Tryd.func4 (fun _ => by kernel_rfl) (by kernel_rfl) (by kernel_rfl) ?_
        exact ⟨by kernel_rfl, by kernel_rfl⟩)
    | true =>
      rw [if_pos rfl] at hq
      (focus
        refine Xg.at_seq ?_
        refine Xg.at_seq ?_
        refine Xg.at_region ?_
        refine Xg.ops_op (by kernel_rfl) (Xg.opx_pure ((Value.int IntKind.i64 (4 : Int))) rfl (fun _ => by kernel_rfl) ?_)
        refine Xg.ops_op (by kernel_rfl) (Xg.opx_pure ((Value.bool false)) rfl (fun _ => by kernel_rfl) ?_)
        refine Xg.ops_nil ?_
        refine Xg.at_false (t := false) (by kernel_rfl) rfl ?_
        refine Xg.at_exit rfl ?_
        refine Xg.at_seq ?_
        refine Xg.at_region ?_
        refine Xg.ops_op (by kernel_rfl) (Xg.opx_pure ((Value.int IntKind.i64 xx4)) rfl (fun _ => by kernel_rfl) ?_)
        refine Xg.ops_op (by kernel_rfl) (Xg.opx_pure (.int .i64 (Xg.band .i64 (xx4) (((240 : Int))))) rfl (fun _ => by kernel_rfl) ?_)
        refine Xg.ops_op (by kernel_rfl) (Xg.opx_pure ((Value.int IntKind.i64 (0 : Int))) rfl (fun _ => by kernel_rfl) ?_)
        refine Xg.ops_op (by kernel_rfl) (Xg.opx_pure ((Value.int IntKind.i64 (192 : Int))) rfl (fun _ => by kernel_rfl) ?_)
        refine Xg.ops_op (by kernel_rfl) (Xg.opx_pure (.bool (decide (((band IntKind.i64 xx4 (240 : Int)) : Int) = ((192 : Int))))) rfl (fun _ => by kernel_rfl) ?_)
        refine Xg.ops_op (by kernel_rfl) (Xg.opx_pure ((Value.bool (decide (band IntKind.i64 xx4 (240 : Int) = (192 : Int))))) rfl (fun _ => by kernel_rfl) ?_)
        refine Xg.ops_flag (j := 158) (c := (decide (band IntKind.i64 xx4 (240 : Int) = (192 : Int)))) (by kernel_rfl) (fun _ => ?_) (fun xh8 => absurd (of_decide_eq_false xh8) (by omega))
        refine Xg.ops_op (by kernel_rfl) (Xg.opx_pure ((Value.int IntKind.i64 xx7)) rfl (fun _ => by kernel_rfl) ?_)
        refine Xg.ops_op (by kernel_rfl) (Xg.opx_pure (.int .i64 (Xg.band .i64 (xx7) (((240 : Int))))) rfl (fun _ => by kernel_rfl) ?_)
        refine Xg.ops_op (by kernel_rfl) (Xg.opx_pure ((Value.int IntKind.i64 (0 : Int))) rfl (fun _ => by kernel_rfl) ?_)
        refine Xg.ops_op (by kernel_rfl) (Xg.opx_pure ((Value.int IntKind.i64 (192 : Int))) rfl (fun _ => by kernel_rfl) ?_)
        refine Xg.ops_op (by kernel_rfl) (Xg.opx_pure (.bool (decide (((band IntKind.i64 xx7 (240 : Int)) : Int) = ((192 : Int))))) rfl (fun _ => by kernel_rfl) ?_)
        refine Xg.ops_flag (j := 163) (c := (decide (band IntKind.i64 xx7 (240 : Int) = (192 : Int)))) (by kernel_rfl) (fun _ => ?_) (fun xh8 => absurd (of_decide_eq_false xh8) (by omega))
        refine Xg.ops_op (by kernel_rfl) (Xg.opx_pure ((Value.bool true)) rfl (fun _ => by kernel_rfl) ?_)
        refine Xg.ops_op (by kernel_rfl) (Xg.opx_pure ((Value.bool true)) rfl (fun _ => by kernel_rfl) ?_)
        refine Xg.ops_op (by kernel_rfl) (Xg.opx_pure ((Value.pointer (some (Addr.mk xx1.fst (0 : Nat) none)))) rfl (fun _ => by kernel_rfl) ?_)
        refine Xg.ops_op (by kernel_rfl) (Xg.opx_call1' [0] [PoR xx1.fst xx6 (Value.slice xx1.snd.fst xs.length xx1.snd.snd), Drv te, bts xx1.snd.fst xx1.snd.snd xs, A] (fun _ => by kernel_rfl) (@Go.Proofs.YtncdmccdclhokaaDoor.requests_d (xx1.fst) (xx6) ((Value.slice xx1.snd.fst xs.length xx1.snd.snd)) (by omega)) (by kernel_rfl) (by kernel_rfl) (by kernel_rfl) ?_)
        refine Xg.ops_op (by kernel_rfl) (Xg.opx_pure (.int .i64 (Xg.band .i64 (xx6.requests) (((16 : Int))))) rfl (fun _ => by kernel_rfl) ?_)
        refine Xg.ops_op (by kernel_rfl) (Xg.opx_pure (.bool (!decide (((band IntKind.i64 xx6.requests (16 : Int)) : Int) = ((0 : Int))))) rfl (fun _ => by kernel_rfl) ?_)
        refine Xg.ops_op (by kernel_rfl) (Xg.opx_pure ((Value.bool true)) rfl (fun _ => by kernel_rfl) ?_)
        refine Xg.ops_op (by kernel_rfl) (Xg.opx_eq (v := ((Value.bool ((!decide (band IntKind.i64 xx6.requests (16 : Int) = (0 : Int))) == true)))) (.bool (!decide (band IntKind.i64 xx6.requests (16 : Int) = (0 : Int)))) rfl (fun _ => by kernel_rfl) (by generalize ((!decide (band IntKind.i64 xx6.requests (16 : Int) = (0 : Int))) : Bool) = bb; cases bb <;> rfl) ?_)
        refine Xg.ops_flag (j := 171) (c := (!decide (band IntKind.i64 xx6.requests (16 : Int) = (0 : Int)))) (by kernel_rfl) (fun _ => ?_) (fun xh8 => absurd xh8 (by rw [decide_eq_false (p := (band IntKind.i64 xx6.requests (16 : Int) = (0 : Int))) (by omega)]; decide))
        refine Xg.ops_op (by kernel_rfl) (Xg.opx_pure ((Value.bool true)) rfl (fun _ => by kernel_rfl) ?_)
        refine Xg.ops_op (by kernel_rfl) (Xg.opx_pure ((Value.bool true)) rfl (fun _ => by kernel_rfl) ?_)
        refine Xg.ops_nil ?_
        refine Xg.at_ret_ps (v := (Value.bool true)) [1, 3] [Drv te, A] Go.Proofs.Tryd.func4 (fun _ => by kernel_rfl) (by kernel_rfl) (by kernel_rfl) ?_
        exact ⟨by kernel_rfl, by kernel_rfl⟩)

end Go.Proofs.YtncdmccdclhokaaDoor
