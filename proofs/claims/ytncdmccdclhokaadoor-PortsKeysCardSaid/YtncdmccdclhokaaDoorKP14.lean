/- The ports' laws: cuts. -/
import Derived.Test.YtncdmccdclhokaaDoorKP13
namespace Go.Proofs.YtncdmccdclhokaaDoor
open Go.Sl Go.Xg
set_option linter.unusedVariables false
set_option linter.unusedSimpArgs false
set_option maxHeartbeats 4000000
set_option maxRecDepth 100000
variable {te : TypeId}

theorem made_f (A : HP) (la : Option Addr) (n lc : Nat) (l : List Act) (hn : l.length = n) (hn2 : n ≤ maxLen) (hr : Reads A 3 (.slice la n lc) n (recs actC l)) (hl : ∀ i, i < n → (l.getD i default).ok)
    (σ : Po) (xs : List Int) (he : doN l (min n 200) (new0, []) = (σ, xs)) :
    Does Tryd.prog 13 [.slice la n lc] [(Drv te), A]
      (RetE (fun x : Nat × Option Addr × Nat => True) (fun x => pt x.1) (fun x => [PoS x.1 σ x.2.1 x.2.2 xs, bts x.2.1 x.2.2 xs, (Drv te), A])) := by
  refine (made_d A la n lc l hn hn2 hr hl).mono fun v ps ⟨x, h1, h2, h3⟩ => ⟨(x.1, x.2.2.1, x.2.2.2.1), trivial, h2, ?_⟩
  obtain ⟨p', σx, ax, cx, xsx⟩ := x
  obtain ⟨rfl, rfl⟩ := Prod.mk.inj (h1.trans he)
  exact h3

theorem made_ok (l : List Act) (n : Nat) : ∃ σ xs, doN l n (new0, []) = (σ, xs) ∧ σ.Wf ∧ xs.length ≤ 256 := by
  have := doN_ok (x := (new0, [])) ⟨new0_wf, by decide⟩ l n
  exact ⟨_, _, rfl, this.1, this.2⟩

theorem step_f (p : Nat) (σ : Po) (hσ : σ.Wf) (a : Option Addr) (c : Nat) (xs : List Int) (hl : xs.length ≤ 256) (n : Int) (hn : 0 ≤ n ∧ n ≤ 1000000) (σ' : Po) (xs' : List Int) (he : clk n.toNat (σ, xs) = (σ', xs')) :
    Does Tryd.prog 17 [pt p, .int .i64 n] [PoS p σ a c xs, bts a c xs, (Drv te)]
      (RetE (fun x : Option Addr × Nat => True) (fun _ => .int .i64 0) (fun x => [PoS p σ' x.1 x.2 xs', bts x.1 x.2 xs', (Drv te)])) := by
  refine (step_i p σ hσ a c xs hl n hn).mono fun v ps ⟨x, ⟨h1, _⟩, h2, h3⟩ => ⟨(x.2.1, x.2.2.1), trivial, h2, ?_⟩
  obtain ⟨σx, ax, cx, xsx⟩ := x
  obtain ⟨rfl, rfl⟩ := Prod.mk.inj (h1.trans he)
  exact h3

theorem clk_okf {σ σ' : Po} {xs xs' : List Int} (n : Nat) (he : clk n (σ, xs) = (σ', xs')) (hσ : σ.Wf) (hl : xs.length ≤ 256) : σ'.Wf ∧ xs'.length ≤ 256 := by
  have := clk_ok (x := (σ, xs)) ⟨hσ, hl⟩ n
  rw [he] at this; exact this

theorem pick_f (c : Int) (n : Nat) (hc : i64ok c) (hn : 0 < n) (N : Nat) (hN : pickN c n = N) : Does Tryd.prog 14 [.int .i64 c, .int .i64 (n : Nat)] [] (Ret (.int .i64 (N : Nat)) []) :=
  (pick_d c n hc hn).mono fun v ps ⟨x, ⟨h1, _⟩, h2, h3⟩ => ⟨by rw [h2, h1, hN], h3⟩

set_option maxHeartbeats 0 in
theorem cut_d (A : HP) (la : Option Addr) (n lc : Nat) (l : List Act) (hn : l.length = n) (hn2 : n ≤ maxLen) (hr : Reads A 3 (.slice la n lc) n (recs actC l)) (hl : ∀ i, i < n → (l.getD i default).ok)
    (v : Int) (hv : i64ok v)
    (lb : Option Addr) (nb lcb : Nat) (ys : List Int) (hnb : ys.length = nb) (hnb2 : nb ≤ maxLen) (hrb : Reads A 1 (.slice lb nb lcb) nb (ys.map (Value.int .i64))) (hlb : ∀ i, i < nb → i64ok (ys.getD i 0)) :
    Does Tryd.prog 7 [.slice la n lc, .int .i64 v, .slice lb nb lcb] [(Drv te), A] (Ret (.bool true) [(Drv te), A]) := by
  obtain ⟨σ, xs, he, hσ, hxl⟩ := made_ok l (min n 200)
  have hm := made_f (te := te) A la n lc l hn hn2 hr hl σ xs he
  clear he
  obtain ⟨N, hN⟩ : ∃ N, pickN v 100000 = N := ⟨_, rfl⟩
  have hN2 : N < 100000 := hN ▸ pickN_lt v 100000 (by omega)
  have hpk := pick_f v 100000 hv (by omega) N hN
  clear hN
  obtain ⟨σ1, xs1, he1⟩ : ∃ σ1 xs1, clk N (σ, xs) = (σ1, xs1) := ⟨_, _, rfl⟩
  obtain ⟨hσ1, hxl1⟩ := clk_okf N he1 hσ hxl
  have hst : ∀ p a c, Does Tryd.prog 17 [pt p, .int .i64 (N : Nat)] [PoS p σ a c xs, bts a c xs, (Drv te)]
      (RetE (fun x : Option Addr × Nat => True) (fun _ => .int .i64 0) (fun x => [PoS p σ1 x.1 x.2 xs1, bts x.1 x.2 xs1, (Drv te)])) := fun p a c => step_f p σ hσ a c xs hxl N (by omega) σ1 xs1 he1
  unfold maxLen at hnb2
  (focus
    refine Xg.spec_of Go.Proofs.Tryd.func7 rfl Go.Proofs.Tryd.ntmps7 fun g F => ?_)
  (focus
    refine Xg.at_seq ?_
    refine Xg.at_region ?_
    refine Xg.ops_op (by kernel_rfl) (Xg.opx_pure ((Value.bool false)) rfl (fun _ => by kernel_rfl) ?_)
    refine Xg.ops_nil ?_
    refine Xg.at_seq ?_
    refine Xg.at_region ?_
    refine Xg.ops_op (by kernel_rfl) (Xg.opx_pure ((Value.slice la n lc)) rfl (fun _ => by kernel_rfl) ?_)
    refine Xg.ops_op (by kernel_rfl) (Xg.opx_callE' [0, 1] (fun xx1 => [PoS xx1.fst σ xx1.snd.fst xx1.snd.snd xs, bts xx1.snd.fst xx1.snd.snd xs, Drv te, A]) (fun _ => by kernel_rfl) (@hm ) (by kernel_rfl) (by kernel_rfl) (by kernel_rfl) fun xx1 xh1 => ?_)
    try dsimp only at xh1
    refine Xg.ops_op (by kernel_rfl) (Xg.opx_pure ((Value.pointer (some (Addr.mk xx1.fst (0 : Nat) none)))) rfl (fun _ => by kernel_rfl) ?_)
    refine Xg.ops_nil ?_
    refine Xg.at_seq ?_
    refine Xg.at_region ?_
    refine Xg.ops_op (by kernel_rfl) (Xg.opx_pure ((Value.slice la n lc)) rfl (fun _ => by kernel_rfl) ?_)
    refine Xg.ops_op (by kernel_rfl) (Xg.opx_callE' [2, 3] (fun xx2 => [PoS xx2.fst σ xx2.snd.fst xx2.snd.snd xs, bts xx2.snd.fst xx2.snd.snd xs, Drv te, A, PoS xx1.fst σ xx1.snd.fst xx1.snd.snd xs, bts xx1.snd.fst xx1.snd.snd xs]) (fun _ => by kernel_rfl) (@hm ) (by kernel_rfl) (by kernel_rfl) (by kernel_rfl) fun xx2 xh2 => ?_)
    try dsimp only at xh2
    refine Xg.ops_op (by kernel_rfl) (Xg.opx_pure ((Value.pointer (some (Addr.mk xx2.fst (0 : Nat) none)))) rfl (fun _ => by kernel_rfl) ?_)
    refine Xg.ops_nil ?_
    refine Xg.at_seq ?_
    refine Xg.at_seq ?_
    refine Xg.at_region ?_
    refine Xg.ops_op (by kernel_rfl) (Xg.opx_pure ((Value.pointer (some (Addr.mk xx1.fst (0 : Nat) none)))) rfl (fun _ => by kernel_rfl) ?_)
    refine Xg.ops_op (by kernel_rfl) (Xg.opx_pure ((Value.bool false)) rfl (fun _ => by kernel_rfl) ?_)
    refine Xg.ops_op (by kernel_rfl) (Xg.opx_pure ((Value.bool false)) rfl (fun _ => by kernel_rfl) ?_)
    refine Xg.ops_op (by kernel_rfl) (Xg.opx_pure ((Value.pointer (some (Addr.mk xx2.fst (0 : Nat) none)))) rfl (fun _ => by kernel_rfl) ?_)
    refine Xg.ops_op (by kernel_rfl) (Xg.opx_pure ((Value.bool false)) rfl (fun _ => by kernel_rfl) ?_)
    refine Xg.ops_op (by kernel_rfl) (Xg.opx_pure ((Value.bool false)) rfl (fun _ => by kernel_rfl) ?_)
    refine Xg.ops_nil ?_
    refine Xg.at_false (t := false) (by kernel_rfl) rfl ?_
    refine Xg.at_skip ?_
    refine Xg.at_seq ?_
    refine Xg.at_region ?_
    refine Xg.ops_op (by kernel_rfl) (Xg.opx_pure ((Value.int IntKind.i64 v)) rfl (fun _ => by kernel_rfl) ?_)
    refine Xg.ops_op (by kernel_rfl) (Xg.opx_call1' [] [PoS xx2.fst σ xx2.snd.fst xx2.snd.snd xs, bts xx2.snd.fst xx2.snd.snd xs, Drv te, A, PoS xx1.fst σ xx1.snd.fst xx1.snd.snd xs, bts xx1.snd.fst xx1.snd.snd xs] (fun _ => by kernel_rfl) (@hpk ) (by kernel_rfl) (by kernel_rfl) (by kernel_rfl) ?_)
    refine Xg.ops_op (by kernel_rfl) (Xg.opx_pure ((Value.int IntKind.i64 (↑N : Int))) rfl (fun _ => by kernel_rfl) ?_)
    refine Xg.ops_nil ?_
    refine Xg.at_seq ?_
    refine Xg.at_region ?_
    refine Xg.ops_op (by kernel_rfl) (Xg.opx_pure ((Value.pointer (some (Addr.mk xx1.fst (0 : Nat) none)))) rfl (fun _ => by kernel_rfl) ?_)
    refine Xg.ops_op (by kernel_rfl) (Xg.opx_pure ((Value.int IntKind.i64 (↑N : Int))) rfl (fun _ => by kernel_rfl) ?_)
    refine Xg.ops_op (by kernel_rfl) (Xg.opx_callE' [4, 5, 2] (fun xx3 => [PoS xx1.fst σ1 xx3.fst xx3.snd xs1, bts xx3.fst xx3.snd xs1, Drv te, PoS xx2.fst σ xx2.snd.fst xx2.snd.snd xs, bts xx2.snd.fst xx2.snd.snd xs, A]) (fun _ => by kernel_rfl) (@hst (xx1.fst) (xx1.snd.fst) (xx1.snd.snd)) (by kernel_rfl) (by kernel_rfl) (by kernel_rfl) fun xx3 xh3 => ?_)
    try dsimp only at xh3
    refine Xg.ops_op (by kernel_rfl) (Xg.opx_pure ((Value.int IntKind.i64 (0 : Int))) rfl (fun _ => by kernel_rfl) ?_)
    refine Xg.ops_nil ?_
    refine Xg.at_seq ?_
    refine Xg.at_seq ?_
    refine Xg.at_region ?_
    refine Xg.ops_op (by kernel_rfl) (Xg.opx_pure ((Value.int IntKind.i64 (0 : Int))) rfl (fun _ => by kernel_rfl) ?_)
    refine Xg.ops_nil ?_
    refine Xg.at_block ?_)
  (focus
    refine Xg.at_keep [3, 4, 0, 1, 2, 5] (by kernel_rfl) ?_
    refine Xg.at_rounds_inv (α := (Nat × Int × Po × Option Addr × Nat × List Int) × (Nat → Value)) (fun x => (fun x => x.1 ≤ min nb 100 ∧ 0 ≤ x.2.1 ∧ x.2.1 ≤ (N : Int) ∧ (x.2.2.1, x.2.2.2.2.2) = clk ((N : Int) - x.2.1).toNat (σ, xs)) x.1) (fun x => (fun x => nb - x.1) x.1) (fun x => Xg.headT [Value.slice la n lc, Value.int IntKind.i64 v, Value.slice lb nb lcb, Value.tuple #[], Value.tuple #[], Value.tuple #[], Value.bool false, Value.pointer (some (Addr.mk xx1.fst (0 : Nat) none)), Value.pointer (some (Addr.mk xx2.fst (0 : Nat) none)), Value.int IntKind.i64 (↑N : Int), Value.int IntKind.i64 (0 : Int), Value.int IntKind.i64 (0 : Int), Value.tuple #[], Value.tuple #[], Value.tuple #[], Value.tuple #[], Value.slice la n lc, Value.pointer (some (Addr.mk xx1.fst (0 : Nat) none)), Value.slice la n lc, Value.pointer (some (Addr.mk xx2.fst (0 : Nat) none)), Value.pointer (some (Addr.mk xx1.fst (0 : Nat) none)), Value.bool false, Value.bool false, Value.pointer (some (Addr.mk xx2.fst (0 : Nat) none)), Value.bool false, Value.bool false, Value.int IntKind.i64 v, Value.int IntKind.i64 (↑N : Int), Value.pointer (some (Addr.mk xx1.fst (0 : Nat) none)), Value.int IntKind.i64 (↑N : Int), Value.int IntKind.i64 (0 : Int), Value.tuple #[], Value.tuple #[], Value.tuple #[], Value.tuple #[], Value.tuple #[], Value.tuple #[], Value.tuple #[], Value.tuple #[], Value.tuple #[], Value.tuple #[], Value.tuple #[], Value.tuple #[], Value.tuple #[], Value.tuple #[], Value.tuple #[], Value.tuple #[], Value.tuple #[], Value.tuple #[], Value.tuple #[], Value.tuple #[], Value.tuple #[], Value.tuple #[], Value.tuple #[], Value.tuple #[], Value.tuple #[], Value.tuple #[], Value.tuple #[], Value.tuple #[], Value.tuple #[], Value.tuple #[], Value.tuple #[], Value.tuple #[], Value.tuple #[], Value.tuple #[], Value.tuple #[], Value.tuple #[], Value.tuple #[], Value.tuple #[], Value.tuple #[], Value.tuple #[], Value.tuple #[], Value.tuple #[], Value.tuple #[], Value.tuple #[], Value.tuple #[], Value.tuple #[], Value.tuple #[], Value.tuple #[], Value.tuple #[]] [6, 12, 13, 31, 32, 33, 34, 35, 36, 37, 38, 39, 40, 41, 42, 43, 44, 45, 46, 47, 48, 49, 50, 51, 52, 53, 54, 55] ((fun x => [(9, .int .i64 x.2.1), (11, .int .i64 (x.1 : Nat))]) x.1) x.2) (fun x => (fun x => [PoS xx2.1 x.2.2.1 x.2.2.2.1 x.2.2.2.2.1 x.2.2.2.2.2, bts x.2.2.2.1 x.2.2.2.2.1 x.2.2.2.2.2, PoS xx1.1 σ1 xx3.1 xx3.2 xs1, bts xx3.1 xx3.2 xs1, (Drv te), A]) x.1) (((0, (N : Int), σ, xx2.2.1, xx2.2.2, xs)), fun j => ([Value.slice la n lc, Value.int IntKind.i64 v, Value.slice lb nb lcb, Value.tuple #[], Value.tuple #[], Value.tuple #[], Value.bool false, Value.pointer (some (Addr.mk xx1.fst (0 : Nat) none)), Value.pointer (some (Addr.mk xx2.fst (0 : Nat) none)), Value.int IntKind.i64 (↑N : Int), Value.int IntKind.i64 (0 : Int), Value.int IntKind.i64 (0 : Int), Value.tuple #[], Value.tuple #[], Value.tuple #[], Value.tuple #[], Value.slice la n lc, Value.pointer (some (Addr.mk xx1.fst (0 : Nat) none)), Value.slice la n lc, Value.pointer (some (Addr.mk xx2.fst (0 : Nat) none)), Value.pointer (some (Addr.mk xx1.fst (0 : Nat) none)), Value.bool false, Value.bool false, Value.pointer (some (Addr.mk xx2.fst (0 : Nat) none)), Value.bool false, Value.bool false, Value.int IntKind.i64 v, Value.int IntKind.i64 (↑N : Int), Value.pointer (some (Addr.mk xx1.fst (0 : Nat) none)), Value.int IntKind.i64 (↑N : Int), Value.int IntKind.i64 (0 : Int), Value.tuple #[], Value.tuple #[], Value.tuple #[], Value.tuple #[], Value.tuple #[], Value.tuple #[], Value.tuple #[], Value.tuple #[], Value.tuple #[], Value.tuple #[], Value.tuple #[], Value.tuple #[], Value.tuple #[], Value.tuple #[], Value.tuple #[], Value.tuple #[], Value.tuple #[], Value.tuple #[], Value.tuple #[], Value.tuple #[], Value.tuple #[], Value.tuple #[], Value.tuple #[], Value.tuple #[], Value.tuple #[], Value.tuple #[], Value.tuple #[], Value.tuple #[], Value.tuple #[], Value.tuple #[], Value.tuple #[], Value.tuple #[], Value.tuple #[], Value.tuple #[], Value.tuple #[], Value.tuple #[], Value.tuple #[], Value.tuple #[], Value.tuple #[], Value.tuple #[], Value.tuple #[], Value.tuple #[], Value.tuple #[], Value.tuple #[], Value.tuple #[], Value.tuple #[], Value.tuple #[], Value.tuple #[], Value.tuple #[]] : List Value).getD j undef) (by kernel_rfl) (by kernel_rfl) ?_ ?_)
  · exact ⟨Nat.zero_le _, by dsimp only; omega, Int.le_refl _, by dsimp only; rw [Int.sub_self]; rfl⟩
  rintro ⟨⟨i, m, σ', a', c', xs'⟩, J⟩ ⟨hi, hm1, hm2, hx⟩ ih
  dsimp only at hi hm1 hm2 hx
  obtain ⟨hσ', hxl'⟩ := clk_okf _ hx.symm hσ hxl
  have hbk : ∀ k : Int, 0 ≤ k → k ≤ m → clk ((N : Int) - (m - k)).toNat (σ, xs) = clk k.toNat (σ', xs') := fun k h1 h2 => by
    rw [hx, ← clk_add]; congr 1; omega
  (focus
    refine Xg.At.same (T' := [Value.slice la n lc, Value.int IntKind.i64 v, Value.slice lb nb lcb, Value.tuple #[], Value.tuple #[], Value.tuple #[], ((i, m, σ', a', c', xs'), J).snd (6 : Nat), Value.pointer (some (Addr.mk xx1.fst (0 : Nat) none)), Value.pointer (some (Addr.mk xx2.fst (0 : Nat) none)), Value.int IntKind.i64 m, Value.int IntKind.i64 (0 : Int), Value.int IntKind.i64 (↑i : Int), ((i, m, σ', a', c', xs'), J).snd (12 : Nat), ((i, m, σ', a', c', xs'), J).snd (13 : Nat), Value.tuple #[], Value.tuple #[], Value.slice la n lc, Value.pointer (some (Addr.mk xx1.fst (0 : Nat) none)), Value.slice la n lc, Value.pointer (some (Addr.mk xx2.fst (0 : Nat) none)), Value.pointer (some (Addr.mk xx1.fst (0 : Nat) none)), Value.bool false, Value.bool false, Value.pointer (some (Addr.mk xx2.fst (0 : Nat) none)), Value.bool false, Value.bool false, Value.int IntKind.i64 v, Value.int IntKind.i64 (↑N : Int), Value.pointer (some (Addr.mk xx1.fst (0 : Nat) none)), Value.int IntKind.i64 (↑N : Int), Value.int IntKind.i64 (0 : Int), ((i, m, σ', a', c', xs'), J).snd (31 : Nat), ((i, m, σ', a', c', xs'), J).snd (32 : Nat), ((i, m, σ', a', c', xs'), J).snd (33 : Nat), ((i, m, σ', a', c', xs'), J).snd (34 : Nat), ((i, m, σ', a', c', xs'), J).snd (35 : Nat), ((i, m, σ', a', c', xs'), J).snd (36 : Nat), ((i, m, σ', a', c', xs'), J).snd (37 : Nat), ((i, m, σ', a', c', xs'), J).snd (38 : Nat), ((i, m, σ', a', c', xs'), J).snd (39 : Nat), ((i, m, σ', a', c', xs'), J).snd (40 : Nat), ((i, m, σ', a', c', xs'), J).snd (41 : Nat), ((i, m, σ', a', c', xs'), J).snd (42 : Nat), ((i, m, σ', a', c', xs'), J).snd (43 : Nat), ((i, m, σ', a', c', xs'), J).snd (44 : Nat), ((i, m, σ', a', c', xs'), J).snd (45 : Nat), ((i, m, σ', a', c', xs'), J).snd (46 : Nat), ((i, m, σ', a', c', xs'), J).snd (47 : Nat), ((i, m, σ', a', c', xs'), J).snd (48 : Nat), ((i, m, σ', a', c', xs'), J).snd (49 : Nat), ((i, m, σ', a', c', xs'), J).snd (50 : Nat), ((i, m, σ', a', c', xs'), J).snd (51 : Nat), ((i, m, σ', a', c', xs'), J).snd (52 : Nat), ((i, m, σ', a', c', xs'), J).snd (53 : Nat), ((i, m, σ', a', c', xs'), J).snd (54 : Nat), ((i, m, σ', a', c', xs'), J).snd (55 : Nat), Value.tuple #[], Value.tuple #[], Value.tuple #[], Value.tuple #[], Value.tuple #[], Value.tuple #[], Value.tuple #[], Value.tuple #[], Value.tuple #[], Value.tuple #[], Value.tuple #[], Value.tuple #[], Value.tuple #[], Value.tuple #[], Value.tuple #[], Value.tuple #[], Value.tuple #[], Value.tuple #[], Value.tuple #[], Value.tuple #[], Value.tuple #[], Value.tuple #[], Value.tuple #[], Value.tuple #[]]) (L' := [PoS xx2.fst ((i, m, σ', a', c', xs'), J).fst.snd.snd.fst ((i, m, σ', a', c', xs'), J).fst.snd.snd.snd.fst ((i, m, σ', a', c', xs'), J).fst.snd.snd.snd.snd.fst ((i, m, σ', a', c', xs'), J).fst.snd.snd.snd.snd.snd, bts ((i, m, σ', a', c', xs'), J).fst.snd.snd.snd.fst ((i, m, σ', a', c', xs'), J).fst.snd.snd.snd.snd.fst ((i, m, σ', a', c', xs'), J).fst.snd.snd.snd.snd.snd, PoS xx1.fst σ1 xx3.fst xx3.snd xs1, bts xx3.fst xx3.snd xs1, Drv te, A]) (by kernel_rfl) rfl ?_)
  by_cases hlt : i < min nb 100
  · obtain ⟨hlt1, hlt2⟩ : i < nb ∧ i < 100 := by omega
    have ho := hlb i hlt1
    (focus
      refine Xg.at_seq ?_
      refine Xg.at_seq ?_
      refine Xg.at_region ?_
      refine Xg.ops_op (by kernel_rfl) (Xg.opx_pure ((Value.int IntKind.i64 (↑i : Int))) rfl (fun _ => by kernel_rfl) ?_)
      refine Xg.ops_op (by kernel_rfl) (Xg.opx_pure ((Value.slice lb nb lcb)) rfl (fun _ => by kernel_rfl) ?_)
      refine Xg.ops_op (by kernel_rfl) (Xg.opx_pure ((Value.int IntKind.i64 (↑nb : Int))) rfl (fun _ => by kernel_rfl) ?_)
      refine Xg.ops_op (by kernel_rfl) (Xg.opx_pure (.bool (decide ((((↑i : Int)) : Int) < ((↑nb : Int))))) rfl (fun _ => by kernel_rfl) ?_)
      refine Xg.ops_op (by kernel_rfl) (Xg.opx_pure ((Value.bool (decide ((↑i : Int) < (↑nb : Int))))) rfl (fun _ => by kernel_rfl) ?_)
      refine Xg.ops_flag (j := 35) (c := (decide ((↑i : Int) < (↑nb : Int)))) (by kernel_rfl) (fun _ => ?_) (fun xh4 => absurd (of_decide_eq_false xh4) (by omega))
      refine Xg.ops_op (by kernel_rfl) (Xg.opx_pure ((Value.int IntKind.i64 (↑i : Int))) rfl (fun _ => by kernel_rfl) ?_)
      refine Xg.ops_op (by kernel_rfl) (Xg.opx_pure (.bool (decide ((((↑i : Int)) : Int) < ((100 : Int))))) rfl (fun _ => by kernel_rfl) ?_)
      refine Xg.ops_op (by kernel_rfl) (Xg.opx_pure ((Value.bool (decide ((↑i : Int) < (100 : Int))))) rfl (fun _ => by kernel_rfl) ?_)
      refine Xg.ops_nil ?_
      refine Xg.at_true (t := decide (((↑i : Int) < (100 : Int)))) (by kernel_rfl) (decide_eq_true (by omega)) ?_
      refine Xg.at_skip ?_
      refine Xg.at_seq ?_
      refine Xg.at_block ?_
      refine Xg.at_seq ?_
      refine Xg.at_region ?_
      refine Xg.ops_op (by kernel_rfl) (Xg.opx_pure ((Value.slice lb nb lcb)) rfl (fun _ => by kernel_rfl) ?_)
      refine Xg.ops_op (by kernel_rfl) (Xg.opx_pure ((Value.int IntKind.i64 (↑i : Int))) rfl (fun _ => by kernel_rfl) ?_)
      refine Xg.ops_op (by kernel_rfl) (Xg.opx_rd 5 (.pointer (some (Addr.mk (Xg.blk lb) (offA lb + i) none))) rfl hrb (by kernel_rfl) (Xg.run_ix_rd (elem := 3) (kd := .i64) (e := ((↑i : Int))) 1 i (offA lb + i) (by kernel_rfl) (by kernel_rfl) (by kernel_rfl) (by kernel_rfl) rfl (by omega) (by simp only [List.length_map]; omega) (by omega)) ?_)
      refine Xg.ops_op (by kernel_rfl) (Xg.opx_rd 5 (Value.int IntKind.i64 (ys.getD i (0 : Int))) rfl hrb (by kernel_rfl) (Xg.run_load_rd (off0 := (offA lb + i)) i (by kernel_rfl) (by omega) (Xg.get_ints (by omega)) (by kernel_rfl)) ?_)
      refine Xg.ops_op (by kernel_rfl) (Xg.opx_pure ((Value.int IntKind.i64 m)) rfl (fun _ => by kernel_rfl) ?_)
      refine Xg.ops_op (by kernel_rfl) (Xg.opx_int .i64 (IntKind.wrap .i64 ((m + (1 : Int)))) rfl (fun _ => by kernel_rfl) (Xg.wrap_i64_in (by omega)) ?_)
      refine Xg.ops_op (by kernel_rfl) (Xg.opx_callE' [] (fun xx4 => [PoS xx2.fst σ' a' c' xs', bts a' c' xs', PoS xx1.fst σ1 xx3.fst xx3.snd xs1, bts xx3.fst xx3.snd xs1, Drv te, A]) (fun _ => by kernel_rfl) (@Go.Proofs.YtncdmccdclhokaaDoor.pick_i ((ys.getD i (0 : Int))) ((m + (1 : Int))) (by omega) (by omega)) (by kernel_rfl) (by kernel_rfl) (by kernel_rfl) fun xx4 xh4 => ?_)
      try dsimp only at xh4
      obtain ⟨xh4_0, xh4_1⟩ := xh4
      refine Xg.ops_op (by kernel_rfl) (Xg.opx_pure ((Value.int IntKind.i64 (↑xx4 : Int))) rfl (fun _ => by kernel_rfl) ?_)
      refine Xg.ops_nil ?_
      refine Xg.at_seq ?_
      refine Xg.at_region ?_
      refine Xg.ops_op (by kernel_rfl) (Xg.opx_pure ((Value.pointer (some (Addr.mk xx2.fst (0 : Nat) none)))) rfl (fun _ => by kernel_rfl) ?_)
      refine Xg.ops_op (by kernel_rfl) (Xg.opx_pure ((Value.int IntKind.i64 (↑xx4 : Int))) rfl (fun _ => by kernel_rfl) ?_)
      refine Xg.ops_op (by kernel_rfl) (Xg.opx_callE' [0, 1, 4] (fun xx5 => [PoS xx2.fst xx5.fst xx5.snd.fst xx5.snd.snd.fst xx5.snd.snd.snd, bts xx5.snd.fst xx5.snd.snd.fst xx5.snd.snd.snd, Drv te, PoS xx1.fst σ1 xx3.fst xx3.snd xs1, bts xx3.fst xx3.snd xs1, A]) (fun _ => by kernel_rfl) (@Go.Proofs.YtncdmccdclhokaaDoor.step_i (te) (xx2.fst) (σ') (by omega) (a') (c') (xs') (by omega) (((↑xx4 : Int))) (by omega)) (by kernel_rfl) (by kernel_rfl) (by kernel_rfl) fun xx5 xh5 => ?_)
      try dsimp only at xh5
      obtain ⟨xh5_0, xh5_1, xh5_2⟩ := xh5
      refine Xg.ops_op (by kernel_rfl) (Xg.opx_pure ((Value.int IntKind.i64 (0 : Int))) rfl (fun _ => by kernel_rfl) ?_)
      refine Xg.ops_nil ?_
      refine Xg.at_seq ?_
      refine Xg.at_seq ?_
      refine Xg.at_region ?_
      refine Xg.ops_op (by kernel_rfl) (Xg.opx_pure ((Value.int IntKind.i64 (0 : Int))) rfl (fun _ => by kernel_rfl) ?_)
      refine Xg.ops_op (by kernel_rfl) (Xg.opx_pure ((Value.bool false)) rfl (fun _ => by kernel_rfl) ?_)
      refine Xg.ops_nil ?_
      refine Xg.at_false (t := false) (by kernel_rfl) rfl ?_
      refine Xg.at_skip ?_
      refine Xg.at_region ?_
      refine Xg.ops_op (by kernel_rfl) (Xg.opx_pure ((Value.int IntKind.i64 m)) rfl (fun _ => by kernel_rfl) ?_)
      refine Xg.ops_op (by kernel_rfl) (Xg.opx_pure ((Value.int IntKind.i64 (↑xx4 : Int))) rfl (fun _ => by kernel_rfl) ?_)
      refine Xg.ops_op (by kernel_rfl) (Xg.opx_int .i64 (IntKind.wrap .i64 ((m - (↑xx4 : Int)))) rfl (fun _ => by kernel_rfl) (Xg.wrap_i64_in (by omega)) ?_)
      refine Xg.ops_op (by kernel_rfl) (Xg.opx_pure ((Value.int IntKind.i64 (m - (↑xx4 : Int)))) rfl (fun _ => by kernel_rfl) ?_)
      refine Xg.ops_nil ?_
      refine Xg.at_inBlock ?_
      refine Xg.at_region ?_
      refine Xg.ops_op (by kernel_rfl) (Xg.opx_pure ((Value.int IntKind.i64 (↑i : Int))) rfl (fun _ => by kernel_rfl) ?_)
      refine Xg.ops_op (by kernel_rfl) (Xg.opx_int .i64 (IntKind.wrap .i64 (((↑i : Int) + (1 : Int)))) rfl (fun _ => by kernel_rfl) (Xg.wrap_i64_in (by omega)) ?_)
      refine Xg.ops_op (by kernel_rfl) (Xg.opx_pure ((Value.int IntKind.i64 ((↑i : Int) + (1 : Int)))) rfl (fun _ => by kernel_rfl) ?_)
      refine Xg.ops_nil ?_
      refine Xg.at_inLoop ?_)
    (focus
      refine Xg.at_keep [0, 1, 3, 4, 2, 5] (by kernel_rfl) ?_
      refine Xg.At.same (by kernel_rfl) ?_ (ih (((i + 1, m - (xx4 : Nat), xx5.1, xx5.2.1, xx5.2.2.1, xx5.2.2.2)), fun j => ([Value.slice la n lc, Value.int IntKind.i64 v, Value.slice lb nb lcb, Value.tuple #[], Value.tuple #[], Value.tuple #[], ((i, m, σ', a', c', xs'), J).snd (6 : Nat), Value.pointer (some (Addr.mk xx1.fst (0 : Nat) none)), Value.pointer (some (Addr.mk xx2.fst (0 : Nat) none)), Value.int IntKind.i64 (m - (↑xx4 : Int)), Value.int IntKind.i64 (0 : Int), Value.int IntKind.i64 ((↑i : Int) + (1 : Int)), Value.int IntKind.i64 (↑xx4 : Int), Value.int IntKind.i64 (0 : Int), Value.tuple #[], Value.tuple #[], Value.slice la n lc, Value.pointer (some (Addr.mk xx1.fst (0 : Nat) none)), Value.slice la n lc, Value.pointer (some (Addr.mk xx2.fst (0 : Nat) none)), Value.pointer (some (Addr.mk xx1.fst (0 : Nat) none)), Value.bool false, Value.bool false, Value.pointer (some (Addr.mk xx2.fst (0 : Nat) none)), Value.bool false, Value.bool false, Value.int IntKind.i64 v, Value.int IntKind.i64 (↑N : Int), Value.pointer (some (Addr.mk xx1.fst (0 : Nat) none)), Value.int IntKind.i64 (↑N : Int), Value.int IntKind.i64 (0 : Int), Value.int IntKind.i64 (↑i : Int), Value.slice lb nb lcb, Value.int IntKind.i64 (↑nb : Int), Value.bool (decide ((↑i : Int) < (↑nb : Int))), Value.bool true, Value.int IntKind.i64 (↑i : Int), Value.bool (decide ((↑i : Int) < (100 : Int))), Value.bool (decide ((↑i : Int) < (100 : Int))), Value.int IntKind.i64 (↑i : Int), Value.int IntKind.i64 ((↑i : Int) + (1 : Int)), Value.slice lb nb lcb, Value.int IntKind.i64 (↑i : Int), Value.pointer (some (Addr.mk (blk lb) (offA lb + i) none)), Value.int IntKind.i64 (ys.getD i (0 : Int)), Value.int IntKind.i64 m, Value.int IntKind.i64 (m + (1 : Int)), Value.int IntKind.i64 (↑xx4 : Int), Value.pointer (some (Addr.mk xx2.fst (0 : Nat) none)), Value.int IntKind.i64 (↑xx4 : Int), Value.int IntKind.i64 (0 : Int), Value.int IntKind.i64 (0 : Int), Value.bool false, Value.int IntKind.i64 m, Value.int IntKind.i64 (↑xx4 : Int), Value.int IntKind.i64 (m - (↑xx4 : Int)), Value.tuple #[], Value.tuple #[], Value.tuple #[], Value.tuple #[], Value.tuple #[], Value.tuple #[], Value.tuple #[], Value.tuple #[], Value.tuple #[], Value.tuple #[], Value.tuple #[], Value.tuple #[], Value.tuple #[], Value.tuple #[], Value.tuple #[], Value.tuple #[], Value.tuple #[], Value.tuple #[], Value.tuple #[], Value.tuple #[], Value.tuple #[], Value.tuple #[], Value.tuple #[], Value.tuple #[]] : List Value).getD j undef) ?_ ?_))
    · rfl
    · refine ⟨by dsimp only; omega, by dsimp only; omega, by dsimp only; omega, ?_⟩
      dsimp only
      rw [hbk _ (by omega) (by omega)]
      assumption
    · dsimp only; omega
  · have hfin : clk m.toNat (σ', xs') = (σ1, xs1) := by
      rw [← hbk m (by omega) (by omega), ← he1]; congr 1; omega
    have hst2 : ∀ p a c, Does Tryd.prog 17 [pt p, .int .i64 m] [PoS p σ' a c xs', bts a c xs', (Drv te)]
      (RetE (fun x : Option Addr × Nat => True) (fun _ => .int .i64 0) (fun x => [PoS p σ1 x.1 x.2 xs1, bts x.1 x.2 xs1, (Drv te)])) := fun p a c => step_f p σ' hσ' a c xs' hxl' m (by omega) σ1 xs1 hfin
    clear ih
    (focus
      refine Xg.at_seq ?_
      refine Xg.at_seq ?_
      refine Xg.at_region ?_
      refine Xg.ops_op (by kernel_rfl) (Xg.opx_pure ((Value.int IntKind.i64 (↑i : Int))) rfl (fun _ => by kernel_rfl) ?_)
      refine Xg.ops_op (by kernel_rfl) (Xg.opx_pure ((Value.slice lb nb lcb)) rfl (fun _ => by kernel_rfl) ?_)
      refine Xg.ops_op (by kernel_rfl) (Xg.opx_pure ((Value.int IntKind.i64 (↑nb : Int))) rfl (fun _ => by kernel_rfl) ?_)
      refine Xg.ops_op (by kernel_rfl) (Xg.opx_pure (.bool (decide ((((↑i : Int)) : Int) < ((↑nb : Int))))) rfl (fun _ => by kernel_rfl) ?_)
      refine Xg.ops_op (by kernel_rfl) (Xg.opx_pure ((Value.bool (decide ((↑i : Int) < (↑nb : Int))))) rfl (fun _ => by kernel_rfl) ?_)
      refine Xg.ops_flag (j := 35) (c := (decide ((↑i : Int) < (↑nb : Int)))) (by kernel_rfl) (fun xh4 => ?_) (fun xh4 => ?_)
      replace xh4 : ((↑i : Int) < (↑nb : Int)) := of_decide_eq_true xh4
      rotate_left
      replace xh4 : ¬ (((↑i : Int) < (↑nb : Int))) := of_decide_eq_false xh4
      rotate_right
      refine Xg.ops_op (by kernel_rfl) (Xg.opx_pure ((Value.int IntKind.i64 (↑i : Int))) rfl (fun _ => by kernel_rfl) ?_)
      refine Xg.ops_op (by kernel_rfl) (Xg.opx_pure (.bool (decide ((((↑i : Int)) : Int) < ((100 : Int))))) rfl (fun _ => by kernel_rfl) ?_)
      refine Xg.ops_op (by kernel_rfl) (Xg.opx_pure ((Value.bool (decide ((↑i : Int) < (100 : Int))))) rfl (fun _ => by kernel_rfl) ?_)
      refine Xg.ops_nil ?_
      refine Xg.at_false (t := decide (((↑i : Int) < (100 : Int)))) (by kernel_rfl) (decide_eq_false (by omega)) ?_
      refine Xg.at_exit rfl ?_
      refine Xg.at_seq ?_
      refine Xg.at_region ?_
      refine Xg.ops_op (by kernel_rfl) (Xg.opx_pure ((Value.pointer (some (Addr.mk xx2.fst (0 : Nat) none)))) rfl (fun _ => by kernel_rfl) ?_)
      refine Xg.ops_op (by kernel_rfl) (Xg.opx_pure ((Value.int IntKind.i64 m)) rfl (fun _ => by kernel_rfl) ?_)
      refine Xg.ops_op (by kernel_rfl) (Xg.opx_callE' [0, 1, 4] (fun xx4 => [PoS xx2.fst σ1 xx4.fst xx4.snd xs1, bts xx4.fst xx4.snd xs1, Drv te, PoS xx1.fst σ1 xx3.fst xx3.snd xs1, bts xx3.fst xx3.snd xs1, A]) (fun _ => by kernel_rfl) (@hst2 (xx2.fst) (a') (c')) (by kernel_rfl) (by kernel_rfl) (by kernel_rfl) fun xx4 xh5 => ?_)
      try dsimp only at xh5
      refine Xg.ops_op (by kernel_rfl) (Xg.opx_pure ((Value.int IntKind.i64 (0 : Int))) rfl (fun _ => by kernel_rfl) ?_)
      refine Xg.ops_nil ?_
      refine Xg.at_seq ?_
      refine Xg.at_region ?_
      refine Xg.ops_op (by kernel_rfl) (Xg.opx_pure ((Value.pointer (some (Addr.mk xx1.fst (0 : Nat) none)))) rfl (fun _ => by kernel_rfl) ?_)
      refine Xg.ops_op (by kernel_rfl) (Xg.opx_pure ((Value.pointer (some (Addr.mk xx2.fst (0 : Nat) none)))) rfl (fun _ => by kernel_rfl) ?_)
      refine Xg.ops_op (by kernel_rfl) (Xg.opx_call1' [3, 0] [PoR xx1.fst σ1 (Value.slice xx3.fst xs1.length xx3.snd), PoR xx2.fst σ1 (Value.slice xx4.fst xs1.length xx4.snd), bts xx4.fst xx4.snd xs1, Drv te, bts xx3.fst xx3.snd xs1, A] (fun _ => by kernel_rfl) (@Go.Proofs.YtncdmccdclhokaaDoor.alike_d (xx1.fst) (xx2.fst) (σ1) (by omega) ((Value.slice xx3.fst xs1.length xx3.snd)) ((Value.slice xx4.fst xs1.length xx4.snd))) (by kernel_rfl) (by kernel_rfl) (by kernel_rfl) ?_)
      refine Xg.ops_op (by kernel_rfl) (Xg.opx_pure ((Value.bool true)) rfl (fun _ => by kernel_rfl) ?_)
      refine Xg.ops_nil ?_
      refine Xg.at_seq ?_
      refine Xg.at_draw [11, 12, 14, 15] [] (by kernel_rfl) ?_
      refine Xg.any_pure ((Value.int IntKind.i64 (0 : Int))) 0 (by kernel_rfl) rfl (by kernel_rfl) (by kernel_rfl) (by kernel_rfl) (by kernel_rfl) rfl (fun _ => by kernel_rfl) ?_
      refine Xg.any_pure ((Value.bool true)) 1 (by kernel_rfl) rfl (by kernel_rfl) (by kernel_rfl) (by kernel_rfl) (by kernel_rfl) rfl (fun _ => by kernel_rfl) ?_
      refine Xg.any_pure ((Value.bool true)) 2 (by kernel_rfl) rfl (by kernel_rfl) (by kernel_rfl) (by kernel_rfl) (by kernel_rfl) rfl (fun _ => by kernel_rfl) ?_
      refine Xg.any_pure ((Value.int IntKind.i64 (0 : Int))) 3 (by kernel_rfl) rfl (by kernel_rfl) (by kernel_rfl) (by kernel_rfl) (by kernel_rfl) rfl (fun _ => by kernel_rfl) ?_
      refine Xg.any_pure ((Value.bool true)) 4 (by kernel_rfl) rfl (by kernel_rfl) (by kernel_rfl) (by kernel_rfl) (by kernel_rfl) rfl (fun _ => by kernel_rfl) ?_
      refine Xg.any_pure ((Value.bool true)) 5 (by kernel_rfl) rfl (by kernel_rfl) (by kernel_rfl) (by kernel_rfl) (by kernel_rfl) rfl (fun _ => by kernel_rfl) ?_
      refine Xg.any_pure ((Value.bool true)) 6 (by kernel_rfl) rfl (by kernel_rfl) (by kernel_rfl) (by kernel_rfl) (by kernel_rfl) rfl (fun _ => by kernel_rfl) ?_
      refine Xg.any_pure ((Value.bool true)) 7 (by kernel_rfl) rfl (by kernel_rfl) (by kernel_rfl) (by kernel_rfl) (by kernel_rfl) rfl (fun _ => by kernel_rfl) ?_
      refine Xg.any_pure ((Value.bool true)) 8 (by kernel_rfl) rfl (by kernel_rfl) (by kernel_rfl) (by kernel_rfl) (by kernel_rfl) rfl (fun _ => by kernel_rfl) ?_
      refine Xg.any_pure ((Value.bool true)) 9 (by kernel_rfl) rfl (by kernel_rfl) (by kernel_rfl) (by kernel_rfl) (by kernel_rfl) rfl (fun _ => by kernel_rfl) ?_
      refine Xg.any_pure ((Value.pointer (some (Addr.mk xx1.fst (0 : Nat) none)))) 10 (by kernel_rfl) rfl (by kernel_rfl) (by kernel_rfl) (by kernel_rfl) (by kernel_rfl) rfl (fun _ => by kernel_rfl) ?_
      refine Xg.any_pure ((Value.pointer (some (Addr.mk xx2.fst (0 : Nat) none)))) 13 (by kernel_rfl) rfl (by kernel_rfl) (by kernel_rfl) (by kernel_rfl) (by kernel_rfl) rfl (fun _ => by kernel_rfl) ?_
      refine Xg.any_each [11] (by kernel_rfl) rfl ⟨?_, trivial⟩
      refine Xg.comes_act rfl (by kernel_rfl) (by kernel_rfl) (Xg.opx_callE' [0, 4] (fun xx5 => [bts xx5.fst xx5.snd xs1, PoS xx1.fst σ1 xx3.fst xx3.snd xs1, bts xx3.fst xx3.snd xs1, PoR xx2.fst σ1 (Value.slice xx4.fst xs1.length xx4.snd), bts xx4.fst xx4.snd xs1, Drv te, A]) (fun _ => by kernel_rfl) (@Go.Proofs.YtncdmccdclhokaaDoor.sent_d (xx1.fst) (σ1) (xx3.fst) (xx3.snd) (xs1) (by omega)) (by kernel_rfl) (by kernel_rfl) (by kernel_rfl) fun xx5 xh6 => ?_)
      try dsimp only at xh6
      refine Xg.acts Xg.owes_nil ?_
      refine Xg.any_each [12, 14] (by kernel_rfl) rfl ⟨?_, ?_, trivial⟩
      refine Xg.comes_act rfl (by kernel_rfl) (by kernel_rfl) (Xg.opx_rd 0 (.string (Xg.St xs1)) rfl (Xg.reads_own (E := ((5 : TypeId))) (sz := ((1 : Nat))) (n := xs1.length) (c := xx5.snd) (a := xx5.fst) (vs := (List.map (Value.int IntKind.u8) xs1))) (by kernel_rfl) (Xg.run_str_rd (e := 5) (a := xx5.fst) (n := xs1.length) (c := xx5.snd) (xs := xs1) (by kernel_rfl) (by kernel_rfl) (by kernel_rfl) (by kernel_rfl)) ?_)
      refine Xg.acts Xg.owes_nil ?_
      rotate_left
      refine Xg.comes_act rfl (by kernel_rfl) (by kernel_rfl) (Xg.opx_callE' [3, 4] (fun xx6 => [bts xx6.fst xx6.snd xs1, PoS xx2.fst σ1 xx4.fst xx4.snd xs1, bts xx4.fst xx4.snd xs1, bts xx5.fst xx5.snd xs1, PoS xx1.fst σ1 xx3.fst xx3.snd xs1, bts xx3.fst xx3.snd xs1, Drv te, A]) (fun _ => by kernel_rfl) (@Go.Proofs.YtncdmccdclhokaaDoor.sent_d (xx2.fst) (σ1) (xx4.fst) (xx4.snd) (xs1) (by omega)) (by kernel_rfl) (by kernel_rfl) (by kernel_rfl) fun xx6 xh7 => ?_)
      try dsimp only at xh7
      refine Xg.acts Xg.owes_nil ?_
      rotate_left
      refine Xg.ops_skip (by kernel_rfl) ?_
      refine Xg.ops_skip (by kernel_rfl) ?_
      refine Xg.ops_op (by kernel_rfl) (Xg.opx_pure ((Value.bool false)) rfl (fun _ => by kernel_rfl) ?_)
      refine Xg.ops_nil ?_
      refine Xg.at_false (t := false) (by kernel_rfl) rfl ?_
      refine Xg.at_exit rfl ?_
      refine Xg.at_seq ?_
      refine Xg.at_region ?_
      refine Xg.ops_op (by kernel_rfl) (Xg.opx_pure ((Value.pointer (some (Addr.mk xx2.fst (0 : Nat) none)))) rfl (fun _ => by kernel_rfl) ?_)
      refine Xg.ops_op (by kernel_rfl) (Xg.opx_pure ((Value.int IntKind.i64 m)) rfl (fun _ => by kernel_rfl) ?_)
      refine Xg.ops_op (by kernel_rfl) (Xg.opx_callE' [0, 1, 4] (fun xx4 => [PoS xx2.fst σ1 xx4.fst xx4.snd xs1, bts xx4.fst xx4.snd xs1, Drv te, PoS xx1.fst σ1 xx3.fst xx3.snd xs1, bts xx3.fst xx3.snd xs1, A]) (fun _ => by kernel_rfl) (@hst2 (xx2.fst) (a') (c')) (by kernel_rfl) (by kernel_rfl) (by kernel_rfl) fun xx4 xh5 => ?_)
      try dsimp only at xh5
      refine Xg.ops_op (by kernel_rfl) (Xg.opx_pure ((Value.int IntKind.i64 (0 : Int))) rfl (fun _ => by kernel_rfl) ?_)
      refine Xg.ops_nil ?_
      refine Xg.at_seq ?_
      refine Xg.at_region ?_
      refine Xg.ops_op (by kernel_rfl) (Xg.opx_pure ((Value.pointer (some (Addr.mk xx1.fst (0 : Nat) none)))) rfl (fun _ => by kernel_rfl) ?_)
      refine Xg.ops_op (by kernel_rfl) (Xg.opx_pure ((Value.pointer (some (Addr.mk xx2.fst (0 : Nat) none)))) rfl (fun _ => by kernel_rfl) ?_)
      refine Xg.ops_op (by kernel_rfl) (Xg.opx_call1' [3, 0] [PoR xx1.fst σ1 (Value.slice xx3.fst xs1.length xx3.snd), PoR xx2.fst σ1 (Value.slice xx4.fst xs1.length xx4.snd), bts xx4.fst xx4.snd xs1, Drv te, bts xx3.fst xx3.snd xs1, A] (fun _ => by kernel_rfl) (@Go.Proofs.YtncdmccdclhokaaDoor.alike_d (xx1.fst) (xx2.fst) (σ1) (by omega) ((Value.slice xx3.fst xs1.length xx3.snd)) ((Value.slice xx4.fst xs1.length xx4.snd))) (by kernel_rfl) (by kernel_rfl) (by kernel_rfl) ?_)
      refine Xg.ops_op (by kernel_rfl) (Xg.opx_pure ((Value.bool true)) rfl (fun _ => by kernel_rfl) ?_)
      refine Xg.ops_nil ?_
      refine Xg.at_seq ?_
      refine Xg.at_draw [11, 12, 14, 15] [] (by kernel_rfl) ?_
      refine Xg.any_pure ((Value.int IntKind.i64 (0 : Int))) 0 (by kernel_rfl) rfl (by kernel_rfl) (by kernel_rfl) (by kernel_rfl) (by kernel_rfl) rfl (fun _ => by kernel_rfl) ?_
      refine Xg.any_pure ((Value.bool true)) 1 (by kernel_rfl) rfl (by kernel_rfl) (by kernel_rfl) (by kernel_rfl) (by kernel_rfl) rfl (fun _ => by kernel_rfl) ?_
      refine Xg.any_pure ((Value.bool true)) 2 (by kernel_rfl) rfl (by kernel_rfl) (by kernel_rfl) (by kernel_rfl) (by kernel_rfl) rfl (fun _ => by kernel_rfl) ?_
      refine Xg.any_pure ((Value.int IntKind.i64 (0 : Int))) 3 (by kernel_rfl) rfl (by kernel_rfl) (by kernel_rfl) (by kernel_rfl) (by kernel_rfl) rfl (fun _ => by kernel_rfl) ?_
      refine Xg.any_pure ((Value.bool true)) 4 (by kernel_rfl) rfl (by kernel_rfl) (by kernel_rfl) (by kernel_rfl) (by kernel_rfl) rfl (fun _ => by kernel_rfl) ?_
      refine Xg.any_pure ((Value.bool true)) 5 (by kernel_rfl) rfl (by kernel_rfl) (by kernel_rfl) (by kernel_rfl) (by kernel_rfl) rfl (fun _ => by kernel_rfl) ?_
      refine Xg.any_pure ((Value.bool true)) 6 (by kernel_rfl) rfl (by kernel_rfl) (by kernel_rfl) (by kernel_rfl) (by kernel_rfl) rfl (fun _ => by kernel_rfl) ?_
      refine Xg.any_pure ((Value.bool true)) 7 (by kernel_rfl) rfl (by kernel_rfl) (by kernel_rfl) (by kernel_rfl) (by kernel_rfl) rfl (fun _ => by kernel_rfl) ?_
      refine Xg.any_pure ((Value.bool true)) 8 (by kernel_rfl) rfl (by kernel_rfl) (by kernel_rfl) (by kernel_rfl) (by kernel_rfl) rfl (fun _ => by kernel_rfl) ?_
      refine Xg.any_pure ((Value.bool true)) 9 (by kernel_rfl) rfl (by kernel_rfl) (by kernel_rfl) (by kernel_rfl) (by kernel_rfl) rfl (fun _ => by kernel_rfl) ?_
      refine Xg.any_pure ((Value.pointer (some (Addr.mk xx1.fst (0 : Nat) none)))) 10 (by kernel_rfl) rfl (by kernel_rfl) (by kernel_rfl) (by kernel_rfl) (by kernel_rfl) rfl (fun _ => by kernel_rfl) ?_
      refine Xg.any_pure ((Value.pointer (some (Addr.mk xx2.fst (0 : Nat) none)))) 13 (by kernel_rfl) rfl (by kernel_rfl) (by kernel_rfl) (by kernel_rfl) (by kernel_rfl) rfl (fun _ => by kernel_rfl) ?_
      refine Xg.any_each [11] (by kernel_rfl) rfl ⟨?_, trivial⟩
      refine Xg.comes_act rfl (by kernel_rfl) (by kernel_rfl) (Xg.opx_callE' [0, 4] (fun xx5 => [bts xx5.fst xx5.snd xs1, PoS xx1.fst σ1 xx3.fst xx3.snd xs1, bts xx3.fst xx3.snd xs1, PoR xx2.fst σ1 (Value.slice xx4.fst xs1.length xx4.snd), bts xx4.fst xx4.snd xs1, Drv te, A]) (fun _ => by kernel_rfl) (@Go.Proofs.YtncdmccdclhokaaDoor.sent_d (xx1.fst) (σ1) (xx3.fst) (xx3.snd) (xs1) (by omega)) (by kernel_rfl) (by kernel_rfl) (by kernel_rfl) fun xx5 xh6 => ?_)
      try dsimp only at xh6
      refine Xg.acts Xg.owes_nil ?_
      refine Xg.any_each [12, 14] (by kernel_rfl) rfl ⟨?_, ?_, trivial⟩
      refine Xg.comes_act rfl (by kernel_rfl) (by kernel_rfl) (Xg.opx_rd 0 (.string (Xg.St xs1)) rfl (Xg.reads_own (E := ((5 : TypeId))) (sz := ((1 : Nat))) (n := xs1.length) (c := xx5.snd) (a := xx5.fst) (vs := (List.map (Value.int IntKind.u8) xs1))) (by kernel_rfl) (Xg.run_str_rd (e := 5) (a := xx5.fst) (n := xs1.length) (c := xx5.snd) (xs := xs1) (by kernel_rfl) (by kernel_rfl) (by kernel_rfl) (by kernel_rfl)) ?_)
      refine Xg.acts Xg.owes_nil ?_
      rotate_left
      refine Xg.comes_act rfl (by kernel_rfl) (by kernel_rfl) (Xg.opx_callE' [3, 4] (fun xx6 => [bts xx6.fst xx6.snd xs1, PoS xx2.fst σ1 xx4.fst xx4.snd xs1, bts xx4.fst xx4.snd xs1, bts xx5.fst xx5.snd xs1, PoS xx1.fst σ1 xx3.fst xx3.snd xs1, bts xx3.fst xx3.snd xs1, Drv te, A]) (fun _ => by kernel_rfl) (@Go.Proofs.YtncdmccdclhokaaDoor.sent_d (xx2.fst) (σ1) (xx4.fst) (xx4.snd) (xs1) (by omega)) (by kernel_rfl) (by kernel_rfl) (by kernel_rfl) fun xx6 xh7 => ?_)
      try dsimp only at xh7
      refine Xg.acts Xg.owes_nil ?_
      rotate_left
      refine Xg.any_each [14] (by kernel_rfl) rfl ⟨?_, trivial⟩
      refine Xg.comes_act rfl (by kernel_rfl) (by kernel_rfl) (Xg.opx_callE' [3, 4] (fun xx6 => [bts xx6.fst xx6.snd xs1, PoS xx2.fst σ1 xx4.fst xx4.snd xs1, bts xx4.fst xx4.snd xs1, bts xx5.fst xx5.snd xs1, PoS xx1.fst σ1 xx3.fst xx3.snd xs1, bts xx3.fst xx3.snd xs1, Drv te, A]) (fun _ => by kernel_rfl) (@Go.Proofs.YtncdmccdclhokaaDoor.sent_d (xx2.fst) (σ1) (xx4.fst) (xx4.snd) (xs1) (by omega)) (by kernel_rfl) (by kernel_rfl) (by kernel_rfl) fun xx6 xh7 => ?_)
      try dsimp only at xh7
      refine Xg.acts Xg.owes_nil ?_
      refine Xg.any_each [15] (by kernel_rfl) rfl ⟨?_, trivial⟩
      refine Xg.comes_act rfl (by kernel_rfl) (by kernel_rfl) (Xg.opx_rd 0 (.string (Xg.St xs1)) rfl (Xg.reads_own (E := ((5 : TypeId))) (sz := ((1 : Nat))) (n := xs1.length) (c := xx6.snd) (a := xx6.fst) (vs := (List.map (Value.int IntKind.u8) xs1))) (by kernel_rfl) (Xg.run_str_rd (e := 5) (a := xx6.fst) (n := xs1.length) (c := xx6.snd) (xs := xs1) (by kernel_rfl) (by kernel_rfl) (by kernel_rfl) (by kernel_rfl)) ?_)
      refine Xg.acts Xg.owes_nil ?_
      refine Xg.any_pure (.bool true) 16 (by kernel_rfl) rfl (by kernel_rfl) (by kernel_rfl) (by kernel_rfl) (by kernel_rfl) rfl (Xg.run_str_same (xs := xs1) (ys := xs1) (by kernel_rfl) (by kernel_rfl) (by kernel_rfl) rfl) ?_
      refine Xg.any_pure ((Value.bool true)) 17 (by kernel_rfl) rfl (by kernel_rfl) (by kernel_rfl) (by kernel_rfl) (by kernel_rfl) rfl (fun _ => by kernel_rfl) ?_
      refine Xg.any_pure ((Value.bool true)) 18 (by kernel_rfl) rfl (by kernel_rfl) (by kernel_rfl) (by kernel_rfl) (by kernel_rfl) rfl (fun _ => by kernel_rfl) ?_
      refine Xg.any_nil (by kernel_rfl) ?_
      refine Xg.at_ret_ps (v := (Value.bool true)) [6, 7] [Drv te, A] Go.Proofs.Tryd.func7 (fun _ => by kernel_rfl) (by kernel_rfl) (by kernel_rfl) ?_
      exact ⟨by kernel_rfl, by kernel_rfl⟩
      refine Xg.any_each [12, 15] (by kernel_rfl) rfl ⟨?_, ?_, trivial⟩
      refine Xg.comes_act rfl (by kernel_rfl) (by kernel_rfl) (Xg.opx_rd 3 (.string (Xg.St xs1)) rfl (Xg.reads_own (E := ((5 : TypeId))) (sz := ((1 : Nat))) (n := xs1.length) (c := xx5.snd) (a := xx5.fst) (vs := (List.map (Value.int IntKind.u8) xs1))) (by kernel_rfl) (Xg.run_str_rd (e := 5) (a := xx5.fst) (n := xs1.length) (c := xx5.snd) (xs := xs1) (by kernel_rfl) (by kernel_rfl) (by kernel_rfl) (by kernel_rfl)) ?_)
      refine Xg.acts Xg.owes_nil ?_
      rotate_left
      refine Xg.comes_act rfl (by kernel_rfl) (by kernel_rfl) (Xg.opx_rd 0 (.string (Xg.St xs1)) rfl (Xg.reads_own (E := ((5 : TypeId))) (sz := ((1 : Nat))) (n := xs1.length) (c := xx6.snd) (a := xx6.fst) (vs := (List.map (Value.int IntKind.u8) xs1))) (by kernel_rfl) (Xg.run_str_rd (e := 5) (a := xx6.fst) (n := xs1.length) (c := xx6.snd) (xs := xs1) (by kernel_rfl) (by kernel_rfl) (by kernel_rfl) (by kernel_rfl)) ?_)
      refine Xg.acts Xg.owes_nil ?_
      rotate_left
      refine Xg.any_each [14] (by kernel_rfl) rfl ⟨?_, trivial⟩
      refine Xg.comes_act rfl (by kernel_rfl) (by kernel_rfl) (Xg.opx_callE' [3, 4] (fun xx6 => [bts xx6.fst xx6.snd xs1, PoS xx2.fst σ1 xx4.fst xx4.snd xs1, bts xx4.fst xx4.snd xs1, bts xx5.fst xx5.snd xs1, PoS xx1.fst σ1 xx3.fst xx3.snd xs1, bts xx3.fst xx3.snd xs1, Drv te, A]) (fun _ => by kernel_rfl) (@Go.Proofs.YtncdmccdclhokaaDoor.sent_d (xx2.fst) (σ1) (xx4.fst) (xx4.snd) (xs1) (by omega)) (by kernel_rfl) (by kernel_rfl) (by kernel_rfl) fun xx6 xh7 => ?_)
      try dsimp only at xh7
      refine Xg.acts Xg.owes_nil ?_
      refine Xg.any_each [15] (by kernel_rfl) rfl ⟨?_, trivial⟩
      refine Xg.comes_act rfl (by kernel_rfl) (by kernel_rfl) (Xg.opx_rd 0 (.string (Xg.St xs1)) rfl (Xg.reads_own (E := ((5 : TypeId))) (sz := ((1 : Nat))) (n := xs1.length) (c := xx6.snd) (a := xx6.fst) (vs := (List.map (Value.int IntKind.u8) xs1))) (by kernel_rfl) (Xg.run_str_rd (e := 5) (a := xx6.fst) (n := xs1.length) (c := xx6.snd) (xs := xs1) (by kernel_rfl) (by kernel_rfl) (by kernel_rfl) (by kernel_rfl)) ?_)
      refine Xg.acts Xg.owes_nil ?_
      refine Xg.any_pure (.bool true) 16 (by kernel_rfl) rfl (by kernel_rfl) (by kernel_rfl) (by kernel_rfl) (by kernel_rfl) rfl (Xg.run_str_same (xs := xs1) (ys := xs1) (by kernel_rfl) (by kernel_rfl) (by kernel_rfl) rfl) ?_
      refine Xg.any_pure ((Value.bool true)) 17 (by kernel_rfl) rfl (by kernel_rfl) (by kernel_rfl) (by kernel_rfl) (by kernel_rfl) rfl (fun _ => by kernel_rfl) ?_
      refine Xg.any_pure ((Value.bool true)) 18 (by kernel_rfl) rfl (by kernel_rfl) (by kernel_rfl) (by kernel_rfl) (by kernel_rfl) rfl (fun _ => by kernel_rfl) ?_
      refine Xg.any_nil (by kernel_rfl) ?_
      refine Xg.at_ret_ps (v := (Value.bool true)) [6, 7] [Drv te, A] Go.Proofs.Tryd.func7 (fun _ => by kernel_rfl) (by kernel_rfl) (by kernel_rfl) ?_
      exact ⟨by kernel_rfl, by kernel_rfl⟩
      refine Xg.any_each [12, 15] (by kernel_rfl) rfl ⟨?_, ?_, trivial⟩
      refine Xg.comes_act rfl (by kernel_rfl) (by kernel_rfl) (Xg.opx_rd 3 (.string (Xg.St xs1)) rfl (Xg.reads_own (E := ((5 : TypeId))) (sz := ((1 : Nat))) (n := xs1.length) (c := xx5.snd) (a := xx5.fst) (vs := (List.map (Value.int IntKind.u8) xs1))) (by kernel_rfl) (Xg.run_str_rd (e := 5) (a := xx5.fst) (n := xs1.length) (c := xx5.snd) (xs := xs1) (by kernel_rfl) (by kernel_rfl) (by kernel_rfl) (by kernel_rfl)) ?_)
      refine Xg.acts Xg.owes_nil ?_
      rotate_left
      refine Xg.comes_act rfl (by kernel_rfl) (by kernel_rfl) (Xg.opx_rd 0 (.string (Xg.St xs1)) rfl (Xg.reads_own (E := ((5 : TypeId))) (sz := ((1 : Nat))) (n := xs1.length) (c := xx6.snd) (a := xx6.fst) (vs := (List.map (Value.int IntKind.u8) xs1))) (by kernel_rfl) (Xg.run_str_rd (e := 5) (a := xx6.fst) (n := xs1.length) (c := xx6.snd) (xs := xs1) (by kernel_rfl) (by kernel_rfl) (by kernel_rfl) (by kernel_rfl)) ?_)
      refine Xg.acts Xg.owes_nil ?_
      rotate_left
      refine Xg.any_each [15] (by kernel_rfl) rfl ⟨?_, trivial⟩
      refine Xg.comes_act rfl (by kernel_rfl) (by kernel_rfl) (Xg.opx_rd 0 (.string (Xg.St xs1)) rfl (Xg.reads_own (E := ((5 : TypeId))) (sz := ((1 : Nat))) (n := xs1.length) (c := xx6.snd) (a := xx6.fst) (vs := (List.map (Value.int IntKind.u8) xs1))) (by kernel_rfl) (Xg.run_str_rd (e := 5) (a := xx6.fst) (n := xs1.length) (c := xx6.snd) (xs := xs1) (by kernel_rfl) (by kernel_rfl) (by kernel_rfl) (by kernel_rfl)) ?_)
      refine Xg.acts Xg.owes_nil ?_
      refine Xg.any_pure (.bool true) 16 (by kernel_rfl) rfl (by kernel_rfl) (by kernel_rfl) (by kernel_rfl) (by kernel_rfl) rfl (Xg.run_str_same (xs := xs1) (ys := xs1) (by kernel_rfl) (by kernel_rfl) (by kernel_rfl) rfl) ?_
      refine Xg.any_pure ((Value.bool true)) 17 (by kernel_rfl) rfl (by kernel_rfl) (by kernel_rfl) (by kernel_rfl) (by kernel_rfl) rfl (fun _ => by kernel_rfl) ?_
      refine Xg.any_pure ((Value.bool true)) 18 (by kernel_rfl) rfl (by kernel_rfl) (by kernel_rfl) (by kernel_rfl) (by kernel_rfl) rfl (fun _ => by kernel_rfl) ?_
      refine Xg.any_nil (by kernel_rfl) ?_
      refine Xg.at_ret_ps (v := (Value.bool true)) [6, 7] [Drv te, A] Go.Proofs.Tryd.func7 (fun _ => by kernel_rfl) (by kernel_rfl) (by kernel_rfl) ?_
      exact ⟨by kernel_rfl, by kernel_rfl⟩
      refine Xg.any_each [12] (by kernel_rfl) rfl ⟨?_, trivial⟩
      refine Xg.comes_act rfl (by kernel_rfl) (by kernel_rfl) (Xg.opx_rd 3 (.string (Xg.St xs1)) rfl (Xg.reads_own (E := ((5 : TypeId))) (sz := ((1 : Nat))) (n := xs1.length) (c := xx5.snd) (a := xx5.fst) (vs := (List.map (Value.int IntKind.u8) xs1))) (by kernel_rfl) (Xg.run_str_rd (e := 5) (a := xx5.fst) (n := xs1.length) (c := xx5.snd) (xs := xs1) (by kernel_rfl) (by kernel_rfl) (by kernel_rfl) (by kernel_rfl)) ?_)
      refine Xg.acts Xg.owes_nil ?_
      refine Xg.any_pure (.bool true) 16 (by kernel_rfl) rfl (by kernel_rfl) (by kernel_rfl) (by kernel_rfl) (by kernel_rfl) rfl (Xg.run_str_same (xs := xs1) (ys := xs1) (by kernel_rfl) (by kernel_rfl) (by kernel_rfl) rfl) ?_
      refine Xg.any_pure ((Value.bool true)) 17 (by kernel_rfl) rfl (by kernel_rfl) (by kernel_rfl) (by kernel_rfl) (by kernel_rfl) rfl (fun _ => by kernel_rfl) ?_
      refine Xg.any_pure ((Value.bool true)) 18 (by kernel_rfl) rfl (by kernel_rfl) (by kernel_rfl) (by kernel_rfl) (by kernel_rfl) rfl (fun _ => by kernel_rfl) ?_
      refine Xg.any_nil (by kernel_rfl) ?_
      refine Xg.at_ret_ps (v := (Value.bool true)) [6, 7] [Drv te, A] Go.Proofs.Tryd.func7 (fun _ => by kernel_rfl) (by kernel_rfl) (by kernel_rfl) ?_
      exact ⟨by kernel_rfl, by kernel_rfl⟩
      refine Xg.any_each [15] (by kernel_rfl) rfl ⟨?_, trivial⟩
      refine Xg.comes_act rfl (by kernel_rfl) (by kernel_rfl) (Xg.opx_rd 0 (.string (Xg.St xs1)) rfl (Xg.reads_own (E := ((5 : TypeId))) (sz := ((1 : Nat))) (n := xs1.length) (c := xx6.snd) (a := xx6.fst) (vs := (List.map (Value.int IntKind.u8) xs1))) (by kernel_rfl) (Xg.run_str_rd (e := 5) (a := xx6.fst) (n := xs1.length) (c := xx6.snd) (xs := xs1) (by kernel_rfl) (by kernel_rfl) (by kernel_rfl) (by kernel_rfl)) ?_)
      refine Xg.acts Xg.owes_nil ?_
      refine Xg.any_pure (.bool true) 16 (by kernel_rfl) rfl (by kernel_rfl) (by kernel_rfl) (by kernel_rfl) (by kernel_rfl) rfl (Xg.run_str_same (xs := xs1) (ys := xs1) (by kernel_rfl) (by kernel_rfl) (by kernel_rfl) rfl) ?_
      refine Xg.any_pure ((Value.bool true)) 17 (by kernel_rfl) rfl (by kernel_rfl) (by kernel_rfl) (by kernel_rfl) (by kernel_rfl) rfl (fun _ => by kernel_rfl) ?_
      refine Xg.any_pure ((Value.bool true)) 18 (by kernel_rfl) rfl (by kernel_rfl) (by kernel_rfl) (by kernel_rfl) (by kernel_rfl) rfl (fun _ => by kernel_rfl) ?_
      refine Xg.any_nil (by kernel_rfl) ?_
      refine Xg.at_ret_ps (v := (Value.bool true)) [6, 7] [Drv te, A] Go.Proofs.Tryd.func7 (fun _ => by kernel_rfl) (by kernel_rfl) (by kernel_rfl) ?_
      exact ⟨by kernel_rfl, by kernel_rfl⟩
      refine Xg.any_each [12] (by kernel_rfl) rfl ⟨?_, trivial⟩
      refine Xg.comes_act rfl (by kernel_rfl) (by kernel_rfl) (Xg.opx_rd 3 (.string (Xg.St xs1)) rfl (Xg.reads_own (E := ((5 : TypeId))) (sz := ((1 : Nat))) (n := xs1.length) (c := xx5.snd) (a := xx5.fst) (vs := (List.map (Value.int IntKind.u8) xs1))) (by kernel_rfl) (Xg.run_str_rd (e := 5) (a := xx5.fst) (n := xs1.length) (c := xx5.snd) (xs := xs1) (by kernel_rfl) (by kernel_rfl) (by kernel_rfl) (by kernel_rfl)) ?_)
      refine Xg.acts Xg.owes_nil ?_
      refine Xg.any_pure (.bool true) 16 (by kernel_rfl) rfl (by kernel_rfl) (by kernel_rfl) (by kernel_rfl) (by kernel_rfl) rfl (Xg.run_str_same (xs := xs1) (ys := xs1) (by kernel_rfl) (by kernel_rfl) (by kernel_rfl) rfl) ?_
      refine Xg.any_pure ((Value.bool true)) 17 (by kernel_rfl) rfl (by kernel_rfl) (by kernel_rfl) (by kernel_rfl) (by kernel_rfl) rfl (fun _ => by kernel_rfl) ?_
      refine Xg.any_pure ((Value.bool true)) 18 (by kernel_rfl) rfl (by kernel_rfl) (by kernel_rfl) (by kernel_rfl) (by kernel_rfl) rfl (fun _ => by kernel_rfl) ?_
      refine Xg.any_nil (by kernel_rfl) ?_
      refine Xg.at_ret_ps (v := (Value.bool true)) [6, 7] [Drv te, A] Go.Proofs.Tryd.func7 (fun _ => by kernel_rfl) (by kernel_rfl) (by kernel_rfl) ?_
      exact ⟨by kernel_rfl, by kernel_rfl⟩)

end Go.Proofs.YtncdmccdclhokaaDoor
