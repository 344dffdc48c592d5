import Derived.Test.YtijjficnhpokdaaMAll16
/- The sched law's World: step. -/
namespace Go.Proofs.Ytijjficnhpokdaa
open Go.Sl Go.Xg
set_option linter.unusedVariables false
set_option linter.unusedSimpArgs false
set_option linter.unusedSectionVars false
set_option linter.unnecessarySimpa false
set_option maxHeartbeats 4000000
set_option maxRecDepth 100000

theorem pick_r (c : Int) (n : Nat) (hc : i64ok c) (hn : 0 < n) : Does Try.prog 11 [.int .i64 c, .int .i64 (n : Nat)] [] (Ret (.int .i64 (pickN c n : Nat)) []) :=
  (pick_d c n hc hn).mono fun v ps ⟨x, ⟨hx, _⟩, e1, e2⟩ => ⟨by rw [e1, hx], e2⟩
theorem num_d (e : Int) : Does Try.prog 9 [.int .i64 e] [] (Ret (.int .i64 e) []) := by
  (focus
    refine Xg.spec_of Go.Proofs.Try.func9 rfl Go.Proofs.Try.ntmps9 fun g F => ?_)
  (focus
    refine Xg.at_seq ?_
    refine Xg.at_region ?_
    refine Xg.ops_op (by kernel_rfl) (Xg.opx_pure ((iv 0)) rfl (fun _ => by kernel_rfl) ?_)
    refine Xg.ops_nil ?_
    refine Xg.at_seq ?_
    refine Xg.at_region ?_
    refine Xg.ops_op (by kernel_rfl) (Xg.opx_pure ((iv e)) rfl (fun _ => by kernel_rfl) ?_)
    refine Xg.ops_op (by kernel_rfl) (Xg.opx_pure ((iv e)) rfl (fun _ => by kernel_rfl) ?_)
    refine Xg.ops_nil ?_
    refine Xg.at_ret_ps (v := (iv e)) [] [] Go.Proofs.Try.func9 (fun _ => by kernel_rfl) (by kernel_rfl) (by kernel_rfl) ?_
    exact ⟨by kernel_rfl, by kernel_rfl⟩)
/-- The things: where they lie. -/
abbrev thK (t : Nat × Nat) : List Value := [.pointer (some ⟨t.1, 0, none⟩), .pointer (some ⟨t.2, 0, none⟩)]
abbrev TH (a : Option Addr) (c : Nat) (l : List (Nat × Nat)) : HP := recsO 74 2 thK a c l
/-- A step of a script. -/
structure Sp where
  kd : Int
  p : Int
  n : Int
  b : Bool
deriving Inhabited
abbrev spC (o : Sp) : List Value := [.int .i64 o.kd, .int .i64 o.p, .int .i64 o.n, .bool o.b]
abbrev spV (o : Sp) : Value := .agg #[.int .i64 o.kd, .int .i64 o.p, .int .i64 o.n, .bool o.b]
abbrev WL (wb : Nat) (la : Option Addr) (ln lc : Nat) (v2 v3 v4 v5 : Value) : HP := row wb 50 [.slice la ln lc, v2, v3, v4, v5]
section
variable (wb : Nat) (la : Option Addr) (lc : Nat) (v2 v3 v4 v5 : Value) (Ts : List (Nat × Nat)) (o : Sp)
theorem step_new (hT : Ts.length ≤ 100000000) (hk : o.kd = 1) (k : Nat) (hn : o.n = k) (h1 : 1 ≤ k) (h8 : k ≤ 8) : Does Try.prog 19 [.pointer (some ⟨wb, 0, none⟩), spV o] [WL wb la Ts.length lc v2 v3 v4 v5, TH la lc Ts]
    (RetE (fun x : (Option Addr × Nat) × Nat × Nat => True) (fun x => .bool true) (fun x => [WL wb x.1.1 (Ts ++ [(x.2.1, x.2.2)]).length x.1.2 v2 v3 v4 v5, TH x.1.1 x.1.2 (Ts ++ [(x.2.1, x.2.2)]), SchedP x.2.1 [] (List.replicate k (-1)), RefP x.2.2 [] (List.replicate k (-1))])) := by
  have h1' := new_d k h1 h8
  have h2' := rnew_d k h1 h8
  obtain ⟨kd, p, n, b⟩ := o
  dsimp only at hk hn
  subst hk hn
  (focus
    refine Xg.spec_of Go.Proofs.Try.func19 rfl Go.Proofs.Try.ntmps19 fun g F => ?_)
  (focus
    refine Xg.at_seq ?_
    refine Xg.at_region ?_
    refine Xg.ops_op (by kernel_rfl) (Xg.opx_box (v := (Value.agg #[iv 1, iv p, iv (↑k : Int), Value.bool b])) [iv 1, iv p, iv (↑k : Int), Value.bool b] (by kernel_rfl) (by kernel_rfl) fun xb1 => ?_)
    refine Xg.ops_op (by kernel_rfl) (Xg.opx_pure ((Value.bool false)) rfl (fun _ => by kernel_rfl) ?_)
    refine Xg.ops_nil ?_
    refine Xg.at_seq ?_
    refine Xg.at_seq ?_
    refine Xg.at_region ?_
    refine Xg.ops_op (by kernel_rfl) (Xg.opx_pure ((pv xb1 0)) rfl (fun _ => by kernel_rfl) ?_)
    refine Xg.ops_op (by kernel_rfl) (Xg.opx_load (b := xb1) (off := ((0 : Nat))) 0 (iv 1) rfl (by kernel_rfl) (by kernel_rfl) (by kernel_rfl) ?_)
    refine Xg.ops_op (by kernel_rfl) (Xg.opx_pure ((Value.bool true)) rfl (fun _ => by kernel_rfl) ?_)
    refine Xg.ops_nil ?_
    refine Xg.at_true (t := true) (by kernel_rfl) rfl ?_
    refine Xg.at_seq ?_
    refine Xg.at_region ?_
    refine Xg.ops_op (by kernel_rfl) (Xg.opx_pure ((pv xb1 2)) rfl (fun _ => by kernel_rfl) ?_)
    refine Xg.ops_op (by kernel_rfl) (Xg.opx_load (b := xb1) (off := ((2 : Nat))) 0 (iv (↑k : Int)) rfl (by kernel_rfl) (by kernel_rfl) (by kernel_rfl) ?_)
    refine Xg.ops_op (by kernel_rfl) (Xg.opx_callE' [] (fun xx1 => [SchedP xx1 [] (List.replicate k (-1 : Int)), row xb1 (53 : Nat) [iv 1, iv p, iv (↑k : Int), Value.bool b], WL wb la Ts.length lc v2 v3 v4 v5, TH la lc Ts]) (fun _ => by kernel_rfl) (@h1' ) (by kernel_rfl) (by kernel_rfl) (by kernel_rfl) fun xx1 xh1 => ?_)
    try dsimp only at xh1
    refine Xg.ops_op (by kernel_rfl) (Xg.opx_pure ((Value.tuple #[pv xx1 0, iv 0])) rfl (fun _ => by kernel_rfl) ?_)
    refine Xg.ops_op (by kernel_rfl) (Xg.opx_pure ((pv xx1 0)) rfl (fun _ => by kernel_rfl) ?_)
    refine Xg.ops_op (by kernel_rfl) (Xg.opx_pure ((iv 0)) rfl (fun _ => by kernel_rfl) ?_)
    refine Xg.ops_op (by kernel_rfl) (Xg.opx_pure ((pv xx1 0)) rfl (fun _ => by kernel_rfl) ?_)
    refine Xg.ops_op (by kernel_rfl) (Xg.opx_pure ((iv 0)) rfl (fun _ => by kernel_rfl) ?_)
    refine Xg.ops_nil ?_
    refine Xg.at_seq ?_
    refine Xg.at_region ?_
    refine Xg.ops_op (by kernel_rfl) (Xg.opx_pure ((pv xb1 2)) rfl (fun _ => by kernel_rfl) ?_)
    refine Xg.ops_op (by kernel_rfl) (Xg.opx_load (b := xb1) (off := ((2 : Nat))) 1 (iv (↑k : Int)) rfl (by kernel_rfl) (by kernel_rfl) (by kernel_rfl) ?_)
    refine Xg.ops_op (by kernel_rfl) (Xg.opx_callE' [] (fun xx2 => [RefP xx2 [] (List.replicate k (-1 : Int)), SchedP xx1 [] (List.replicate k (-1 : Int)), row xb1 (53 : Nat) [iv 1, iv p, iv (↑k : Int), Value.bool b], WL wb la Ts.length lc v2 v3 v4 v5, TH la lc Ts]) (fun _ => by kernel_rfl) (@h2' ) (by kernel_rfl) (by kernel_rfl) (by kernel_rfl) fun xx2 xh2 => ?_)
    try dsimp only at xh2
    refine Xg.ops_op (by kernel_rfl) (Xg.opx_pure ((Value.tuple #[pv xx2 0, iv 0])) rfl (fun _ => by kernel_rfl) ?_)
    refine Xg.ops_op (by kernel_rfl) (Xg.opx_pure ((pv xx2 0)) rfl (fun _ => by kernel_rfl) ?_)
    refine Xg.ops_op (by kernel_rfl) (Xg.opx_pure ((iv 0)) rfl (fun _ => by kernel_rfl) ?_)
    refine Xg.ops_op (by kernel_rfl) (Xg.opx_pure ((pv xx2 0)) rfl (fun _ => by kernel_rfl) ?_)
    refine Xg.ops_op (by kernel_rfl) (Xg.opx_pure ((iv 0)) rfl (fun _ => by kernel_rfl) ?_)
    refine Xg.ops_nil ?_
    refine Xg.at_seq ?_
    refine Xg.at_seq ?_
    refine Xg.at_region ?_
    refine Xg.ops_op (by kernel_rfl) (Xg.opx_pure ((iv 0)) rfl (fun _ => by kernel_rfl) ?_)
    refine Xg.ops_op (by kernel_rfl) (Xg.opx_call1' [] [RefP xx2 [] (List.replicate k (-1 : Int)), SchedP xx1 [] (List.replicate k (-1 : Int)), row xb1 (53 : Nat) [iv 1, iv p, iv (↑k : Int), Value.bool b], WL wb la Ts.length lc v2 v3 v4 v5, TH la lc Ts] (fun _ => by kernel_rfl) (@Go.Proofs.Ytijjficnhpokdaa.num_d (((0 : Int)))) (by kernel_rfl) (by kernel_rfl) (by kernel_rfl) ?_)
    refine Xg.ops_op (by kernel_rfl) (Xg.opx_pure ((iv 0)) rfl (fun _ => by kernel_rfl) ?_)
    refine Xg.ops_op (by kernel_rfl) (Xg.opx_call1' [] [RefP xx2 [] (List.replicate k (-1 : Int)), SchedP xx1 [] (List.replicate k (-1 : Int)), row xb1 (53 : Nat) [iv 1, iv p, iv (↑k : Int), Value.bool b], WL wb la Ts.length lc v2 v3 v4 v5, TH la lc Ts] (fun _ => by kernel_rfl) (@Go.Proofs.Ytijjficnhpokdaa.num_d (((0 : Int)))) (by kernel_rfl) (by kernel_rfl) (by kernel_rfl) ?_)
    refine Xg.ops_op (by kernel_rfl) (Xg.opx_pure ((Value.bool false)) rfl (fun _ => by kernel_rfl) ?_)
    refine Xg.ops_op (by kernel_rfl) (Xg.opx_pure ((Value.bool false)) rfl (fun _ => by kernel_rfl) ?_)
    refine Xg.ops_op (by kernel_rfl) (Xg.opx_pure ((pv xx1 0)) rfl (fun _ => by kernel_rfl) ?_)
    refine Xg.ops_op (by kernel_rfl) (Xg.opx_pure ((Value.bool false)) rfl (fun _ => by kernel_rfl) ?_)
    refine Xg.ops_op (by kernel_rfl) (Xg.opx_pure ((pv xx2 0)) rfl (fun _ => by kernel_rfl) ?_)
    refine Xg.ops_op (by kernel_rfl) (Xg.opx_pure ((Value.bool false)) rfl (fun _ => by kernel_rfl) ?_)
    refine Xg.ops_op (by kernel_rfl) (Xg.opx_pure ((Value.bool false)) rfl (fun _ => by kernel_rfl) ?_)
    refine Xg.ops_op (by kernel_rfl) (Xg.opx_pure ((Value.bool false)) rfl (fun _ => by kernel_rfl) ?_)
    refine Xg.ops_nil ?_
    refine Xg.at_false (t := false) (by kernel_rfl) rfl ?_
    refine Xg.at_skip ?_
    refine Xg.at_seq ?_
    refine Xg.at_seq ?_
    refine Xg.at_region ?_
    refine Xg.ops_op (by kernel_rfl) (Xg.opx_pure ((pv xx2 0)) rfl (fun _ => by kernel_rfl) ?_)
    refine Xg.ops_op (by kernel_rfl) (Xg.opx_pure ((Value.bool true)) rfl (fun _ => by kernel_rfl) ?_)
    refine Xg.ops_nil ?_
    refine Xg.at_true (t := true) (by kernel_rfl) rfl ?_
    refine Xg.at_region ?_
    refine Xg.ops_op (by kernel_rfl) (Xg.opx_pure ((pv wb 0)) rfl (fun _ => by kernel_rfl) ?_)
    refine Xg.ops_op (by kernel_rfl) (Xg.opx_pure ((pv wb 0)) rfl (fun _ => by kernel_rfl) ?_)
    refine Xg.ops_op (by kernel_rfl) (Xg.opx_pure ((pv wb 0)) rfl (fun _ => by kernel_rfl) ?_)
    refine Xg.ops_op (by kernel_rfl) (Xg.opx_pure ((pv wb 0)) rfl (fun _ => by kernel_rfl) ?_)
    refine Xg.ops_op (by kernel_rfl) (Xg.opx_load (b := wb) (off := ((0 : Nat))) 3 (Value.slice la Ts.length lc) rfl (by kernel_rfl) (by kernel_rfl) (by kernel_rfl) ?_)
    refine Xg.ops_op (by kernel_rfl) (Xg.opx_pure ((pv xx1 0)) rfl (fun _ => by kernel_rfl) ?_)
    refine Xg.ops_op (by kernel_rfl) (Xg.opx_pure ((pv xx2 0)) rfl (fun _ => by kernel_rfl) ?_)
    refine Xg.ops_op (by kernel_rfl) (Xg.opx_pure ((Value.agg #[pv xx1 0, pv xx2 0])) rfl (fun _ => by kernel_rfl) ?_)
    refine Xg.ops_op (by kernel_rfl) (Xg.opx_bs (elem := 74) 2 [Value.agg #[pv xx1 0, pv xx2 0]] [pv xx1 0, pv xx2 0] (by kernel_rfl) (by kernel_rfl) (by decide) rfl (by kernel_rfl) (by kernel_rfl) (by kernel_rfl) (by kernel_rfl) fun xb2 => ?_)
    refine Xg.ops_op (by kernel_rfl) (Xg.opx_append_recs (elem := 74) (yv := (Value.slice (some (Addr.mk xb2 (0 : Nat) none)) (1 : Nat) (1 : Nat))) (l := Ts) 5 2 64 ((xx1, xx2)) rfl (by kernel_rfl) (by kernel_rfl) (by kernel_rfl) (by kernel_rfl) (fun _ hS => Xg.row_rd hS 0 rfl (by kernel_rfl)) (by kernel_rfl) (by first | omega | (simp only [List.length_nil]; omega) | (simp; done) | (simp; omega)) (by first | omega | (simp only [List.length_nil]; omega) | (simp; done) | (simp; omega)) fun xa1 xc1 => ?_)
    have xl1 : ((Ts : (List (Nat × Nat))) ++ ([((xx1, xx2))] : (List (Nat × Nat)))).length = (Ts : (List (Nat × Nat))).length + 1 := by simp
    refine Xg.ops_op (by kernel_rfl) (Xg.opx_pure ((pv wb 0)) rfl (fun _ => by kernel_rfl) ?_)
    refine Xg.ops_op (by kernel_rfl) (Xg.opx_pure ((pv wb 0)) rfl (fun _ => by kernel_rfl) ?_)
    refine Xg.ops_op (by kernel_rfl) (Xg.opx_store1 (off := 0) 4 (Value.slice xa1 (Ts ++ [(xx1, xx2)]).length xc1) (by kernel_rfl) rfl (by kernel_rfl) (by kernel_rfl) (by kernel_rfl) (Nat.le_of_ble_eq_true (by kernel_rfl)) ?_)
    refine Xg.ops_nil ?_
    refine Xg.at_seq ?_
    refine Xg.at_region ?_
    refine Xg.ops_op (by kernel_rfl) (Xg.opx_pure ((Value.bool true)) rfl (fun _ => by kernel_rfl) ?_)
    refine Xg.ops_nil ?_
    refine Xg.at_ret_ps (v := (Value.bool true)) [4, 5, 2, 1] [row wb (50 : TypeId) [Value.slice xa1 (Ts ++ [(xx1, xx2)]).length xc1, v2, v3, v4, v5], recsO (74 : TypeId) (2 : Nat) thK xa1 xc1 (Ts ++ [(xx1, xx2)]), SchedP xx1 [] (List.replicate k (-1 : Int)), RefP xx2 [] (List.replicate k (-1 : Int))] Go.Proofs.Try.func19 (fun _ => by kernel_rfl) (by kernel_rfl) (by kernel_rfl) ?_
    refine ⟨(((xa1, xc1), xx1, xx2)), trivial, by kernel_rfl, by kernel_rfl⟩)
theorem step_newN (hk : o.kd = 1) (h : o.n < 1 ∨ 8 < o.n) : Does Try.prog 19 [.pointer (some ⟨wb, 0, none⟩), spV o] [WL wb la Ts.length lc v2 v3 v4 v5] (Ret (.bool true) [WL wb la Ts.length lc v2 v3 v4 v5]) := by
  have h1' := newN_d o.n h
  have h2' := rnewN_d o.n h
  (focus
    refine Xg.spec_of Go.Proofs.Try.func19 rfl Go.Proofs.Try.ntmps19 fun g F => ?_)
  (focus
    refine Xg.at_seq ?_
    refine Xg.at_region ?_
    refine Xg.ops_op (by kernel_rfl) (Xg.opx_box (v := (Value.agg #[iv o.kd, iv o.p, iv o.n, Value.bool o.b])) [iv o.kd, iv o.p, iv o.n, Value.bool o.b] (by kernel_rfl) (by kernel_rfl) fun xb1 => ?_)
    refine Xg.ops_op (by kernel_rfl) (Xg.opx_pure ((Value.bool false)) rfl (fun _ => by kernel_rfl) ?_)
    refine Xg.ops_nil ?_
    refine Xg.at_seq ?_
    refine Xg.at_seq ?_
    refine Xg.at_region ?_
    refine Xg.ops_op (by kernel_rfl) (Xg.opx_pure ((pv xb1 0)) rfl (fun _ => by kernel_rfl) ?_)
    refine Xg.ops_op (by kernel_rfl) (Xg.opx_load (b := xb1) (off := ((0 : Nat))) 0 (iv o.kd) rfl (by kernel_rfl) (by kernel_rfl) (by kernel_rfl) ?_)
    refine Xg.ops_op (by kernel_rfl) (Xg.opx_pure (.bool (decide ((o.kd : Int) = ((1 : Int))))) rfl (fun _ => by kernel_rfl) ?_)
    refine Xg.ops_nil ?_
    refine Xg.at_true (t := decide ((o.kd = (1 : Int)))) (by kernel_rfl) (decide_eq_true (by omega)) ?_
    refine Xg.at_seq ?_
    refine Xg.at_region ?_
    refine Xg.ops_op (by kernel_rfl) (Xg.opx_pure ((pv xb1 2)) rfl (fun _ => by kernel_rfl) ?_)
    refine Xg.ops_op (by kernel_rfl) (Xg.opx_load (b := xb1) (off := ((2 : Nat))) 0 (iv o.n) rfl (by kernel_rfl) (by kernel_rfl) (by kernel_rfl) ?_)
    refine Xg.ops_op (by kernel_rfl) (Xg.opx_call1' [] [row xb1 (53 : Nat) [iv o.kd, iv o.p, iv o.n, Value.bool o.b], WL wb la Ts.length lc v2 v3 v4 v5] (fun _ => by kernel_rfl) (@h1' ) (by kernel_rfl) (by kernel_rfl) (by kernel_rfl) ?_)
    refine Xg.ops_op (by kernel_rfl) (Xg.opx_pure ((Value.tuple #[Value.pointer none, iv 1])) rfl (fun _ => by kernel_rfl) ?_)
    refine Xg.ops_op (by kernel_rfl) (Xg.opx_pure ((Value.pointer none)) rfl (fun _ => by kernel_rfl) ?_)
    refine Xg.ops_op (by kernel_rfl) (Xg.opx_pure ((iv 1)) rfl (fun _ => by kernel_rfl) ?_)
    refine Xg.ops_op (by kernel_rfl) (Xg.opx_pure ((Value.pointer none)) rfl (fun _ => by kernel_rfl) ?_)
    refine Xg.ops_op (by kernel_rfl) (Xg.opx_pure ((iv 1)) rfl (fun _ => by kernel_rfl) ?_)
    refine Xg.ops_nil ?_
    refine Xg.at_seq ?_
    refine Xg.at_region ?_
    refine Xg.ops_op (by kernel_rfl) (Xg.opx_pure ((pv xb1 2)) rfl (fun _ => by kernel_rfl) ?_)
    refine Xg.ops_op (by kernel_rfl) (Xg.opx_load (b := xb1) (off := ((2 : Nat))) 0 (iv o.n) rfl (by kernel_rfl) (by kernel_rfl) (by kernel_rfl) ?_)
    refine Xg.ops_op (by kernel_rfl) (Xg.opx_call1' [] [row xb1 (53 : Nat) [iv o.kd, iv o.p, iv o.n, Value.bool o.b], WL wb la Ts.length lc v2 v3 v4 v5] (fun _ => by kernel_rfl) (@h2' ) (by kernel_rfl) (by kernel_rfl) (by kernel_rfl) ?_)
    refine Xg.ops_op (by kernel_rfl) (Xg.opx_pure ((Value.tuple #[Value.pointer none, iv 1])) rfl (fun _ => by kernel_rfl) ?_)
    refine Xg.ops_op (by kernel_rfl) (Xg.opx_pure ((Value.pointer none)) rfl (fun _ => by kernel_rfl) ?_)
    refine Xg.ops_op (by kernel_rfl) (Xg.opx_pure ((iv 1)) rfl (fun _ => by kernel_rfl) ?_)
    refine Xg.ops_op (by kernel_rfl) (Xg.opx_pure ((Value.pointer none)) rfl (fun _ => by kernel_rfl) ?_)
    refine Xg.ops_op (by kernel_rfl) (Xg.opx_pure ((iv 1)) rfl (fun _ => by kernel_rfl) ?_)
    refine Xg.ops_nil ?_
    refine Xg.at_seq ?_
    refine Xg.at_seq ?_
    refine Xg.at_region ?_
    refine Xg.ops_op (by kernel_rfl) (Xg.opx_pure ((iv 1)) rfl (fun _ => by kernel_rfl) ?_)
    refine Xg.ops_op (by kernel_rfl) (Xg.opx_call1' [] [row xb1 (53 : Nat) [iv o.kd, iv o.p, iv o.n, Value.bool o.b], WL wb la Ts.length lc v2 v3 v4 v5] (fun _ => by kernel_rfl) (@Go.Proofs.Ytijjficnhpokdaa.num_d (((1 : Int)))) (by kernel_rfl) (by kernel_rfl) (by kernel_rfl) ?_)
    refine Xg.ops_op (by kernel_rfl) (Xg.opx_pure ((iv 1)) rfl (fun _ => by kernel_rfl) ?_)
    refine Xg.ops_op (by kernel_rfl) (Xg.opx_call1' [] [row xb1 (53 : Nat) [iv o.kd, iv o.p, iv o.n, Value.bool o.b], WL wb la Ts.length lc v2 v3 v4 v5] (fun _ => by kernel_rfl) (@Go.Proofs.Ytijjficnhpokdaa.num_d (((1 : Int)))) (by kernel_rfl) (by kernel_rfl) (by kernel_rfl) ?_)
    refine Xg.ops_op (by kernel_rfl) (Xg.opx_pure ((Value.bool false)) rfl (fun _ => by kernel_rfl) ?_)
    refine Xg.ops_op (by kernel_rfl) (Xg.opx_pure ((Value.bool false)) rfl (fun _ => by kernel_rfl) ?_)
    refine Xg.ops_op (by kernel_rfl) (Xg.opx_pure ((Value.pointer none)) rfl (fun _ => by kernel_rfl) ?_)
    refine Xg.ops_op (by kernel_rfl) (Xg.opx_pure ((Value.bool true)) rfl (fun _ => by kernel_rfl) ?_)
    refine Xg.ops_op (by kernel_rfl) (Xg.opx_pure ((Value.pointer none)) rfl (fun _ => by kernel_rfl) ?_)
    refine Xg.ops_op (by kernel_rfl) (Xg.opx_pure ((Value.bool true)) rfl (fun _ => by kernel_rfl) ?_)
    refine Xg.ops_op (by kernel_rfl) (Xg.opx_pure ((Value.bool false)) rfl (fun _ => by kernel_rfl) ?_)
    refine Xg.ops_op (by kernel_rfl) (Xg.opx_pure ((Value.bool false)) rfl (fun _ => by kernel_rfl) ?_)
    refine Xg.ops_nil ?_
    refine Xg.at_false (t := false) (by kernel_rfl) rfl ?_
    refine Xg.at_skip ?_
    refine Xg.at_seq ?_
    refine Xg.at_seq ?_
    refine Xg.at_region ?_
    refine Xg.ops_op (by kernel_rfl) (Xg.opx_pure ((Value.pointer none)) rfl (fun _ => by kernel_rfl) ?_)
    refine Xg.ops_op (by kernel_rfl) (Xg.opx_pure ((Value.bool false)) rfl (fun _ => by kernel_rfl) ?_)
    refine Xg.ops_nil ?_
    refine Xg.at_false (t := false) (by kernel_rfl) rfl ?_
    refine Xg.at_skip ?_
    refine Xg.at_seq ?_
    refine Xg.at_region ?_
    refine Xg.ops_op (by kernel_rfl) (Xg.opx_pure ((Value.bool true)) rfl (fun _ => by kernel_rfl) ?_)
    refine Xg.ops_nil ?_
    refine Xg.at_ret_ps (v := (Value.bool true)) [1] [WL wb la Ts.length lc v2 v3 v4 v5] Go.Proofs.Try.func19 (fun _ => by kernel_rfl) (by kernel_rfl) (by kernel_rfl) ?_
    exact ⟨by kernel_rfl, by kernel_rfl⟩)
theorem step_none (hk : o.kd ≠ 1) (hT : Ts.length = 0) : Does Try.prog 19 [.pointer (some ⟨wb, 0, none⟩), spV o] [WL wb la Ts.length lc v2 v3 v4 v5] (Ret (.bool true) [WL wb la Ts.length lc v2 v3 v4 v5]) := by
  (focus
    refine Xg.spec_of Go.Proofs.Try.func19 rfl Go.Proofs.Try.ntmps19 fun g F => ?_)
  (focus
    refine Xg.at_seq ?_
    refine Xg.at_region ?_
    refine Xg.ops_op (by kernel_rfl) (Xg.opx_box (v := (Value.agg #[iv o.kd, iv o.p, iv o.n, Value.bool o.b])) [iv o.kd, iv o.p, iv o.n, Value.bool o.b] (by kernel_rfl) (by kernel_rfl) fun xb1 => ?_)
    refine Xg.ops_op (by kernel_rfl) (Xg.opx_pure ((Value.bool false)) rfl (fun _ => by kernel_rfl) ?_)
    refine Xg.ops_nil ?_
    refine Xg.at_seq ?_
    refine Xg.at_seq ?_
    refine Xg.at_region ?_
    refine Xg.ops_op (by kernel_rfl) (Xg.opx_pure ((pv xb1 0)) rfl (fun _ => by kernel_rfl) ?_)
    refine Xg.ops_op (by kernel_rfl) (Xg.opx_load (b := xb1) (off := ((0 : Nat))) 0 (iv o.kd) rfl (by kernel_rfl) (by kernel_rfl) (by kernel_rfl) ?_)
    refine Xg.ops_op (by kernel_rfl) (Xg.opx_pure (.bool (decide ((o.kd : Int) = ((1 : Int))))) rfl (fun _ => by kernel_rfl) ?_)
    refine Xg.ops_nil ?_
    refine Xg.at_false (t := decide ((o.kd = (1 : Int)))) (by kernel_rfl) (decide_eq_false (by omega)) ?_
    refine Xg.at_skip ?_
    refine Xg.at_seq ?_
    refine Xg.at_seq ?_
    refine Xg.at_region ?_
    refine Xg.ops_op (by kernel_rfl) (Xg.opx_pure ((pv wb 0)) rfl (fun _ => by kernel_rfl) ?_)
    refine Xg.ops_op (by kernel_rfl) (Xg.opx_pure ((pv wb 0)) rfl (fun _ => by kernel_rfl) ?_)
    refine Xg.ops_op (by kernel_rfl) (Xg.opx_pure ((pv wb 0)) rfl (fun _ => by kernel_rfl) ?_)
    refine Xg.ops_op (by kernel_rfl) (Xg.opx_load (b := wb) (off := ((0 : Nat))) 1 (Value.slice la Ts.length lc) rfl (by kernel_rfl) (by kernel_rfl) (by kernel_rfl) ?_)
    refine Xg.ops_op (by kernel_rfl) (Xg.opx_pure ((iv (↑Ts.length : Int))) rfl (fun _ => by kernel_rfl) ?_)
    refine Xg.ops_op (by kernel_rfl) (Xg.opx_pure (.bool (decide ((((↑Ts.length : Int)) : Int) = ((0 : Int))))) rfl (fun _ => by kernel_rfl) ?_)
    refine Xg.ops_nil ?_
    refine Xg.at_true (t := decide (((↑Ts.length : Int) = (0 : Int)))) (by kernel_rfl) (decide_eq_true (by omega)) ?_
    refine Xg.at_seq ?_
    refine Xg.at_region ?_
    refine Xg.ops_op (by kernel_rfl) (Xg.opx_pure ((Value.bool true)) rfl (fun _ => by kernel_rfl) ?_)
    refine Xg.ops_nil ?_
    refine Xg.at_ret_ps (v := (Value.bool true)) [1] [WL wb la Ts.length lc v2 v3 v4 v5] Go.Proofs.Try.func19 (fun _ => by kernel_rfl) (by kernel_rfl) (by kernel_rfl) ?_
    exact ⟨by kernel_rfl, by kernel_rfl⟩)
variable (hp : i64ok o.p) (hT : 0 < Ts.length) (hT2 : Ts.length ≤ 100000000) (i : Nat) (hi' : pickN o.p Ts.length = i) (hil : i < Ts.length) (r r' : List (Int × Bool)) (s s' : List Int) (e n : Int)
include hp hT hT2 hi' hil
theorem step_add (hk : o.kd = 2) (hx : Does Try.prog 22 [.pointer (some ⟨(Ts.getD i default).1, 0, none⟩), .int .i64 o.n] [SchedP (Ts.getD i default).1 r s] (Ret (.int .i64 e) [SchedP (Ts.getD i default).1 r' s'])) (hy : Does Try.prog 32 [.pointer (some ⟨(Ts.getD i default).2, 0, none⟩), .int .i64 o.n] [RefP (Ts.getD i default).2 r s] (Ret (.int .i64 e) [RefP (Ts.getD i default).2 r' s'])) : Does Try.prog 19 [.pointer (some ⟨wb, 0, none⟩), spV o] [WL wb la Ts.length lc v2 v3 v4 v5, TH la lc Ts, SchedP (Ts.getD i default).1 r s, RefP (Ts.getD i default).2 r s]
    (Ret (.bool true) [WL wb la Ts.length lc v2 v3 v4 v5, TH la lc Ts, SchedP (Ts.getD i default).1 r' s', RefP (Ts.getD i default).2 r' s']) := by
  have hpd := pick_r o.p Ts.length hp hT
  rw [hi'] at hpd
  (focus
    refine Xg.spec_of Go.Proofs.Try.func19 rfl Go.Proofs.Try.ntmps19 fun g F => ?_)
  (focus
    refine Xg.at_seq ?_
    refine Xg.at_region ?_
    refine Xg.ops_op (by kernel_rfl) (Xg.opx_box (v := (Value.agg #[iv o.kd, iv o.p, iv o.n, Value.bool o.b])) [iv o.kd, iv o.p, iv o.n, Value.bool o.b] (by kernel_rfl) (by kernel_rfl) fun xb1 => ?_)
    refine Xg.ops_op (by kernel_rfl) (Xg.opx_pure ((Value.bool false)) rfl (fun _ => by kernel_rfl) ?_)
    refine Xg.ops_nil ?_
    refine Xg.at_seq ?_
    refine Xg.at_seq ?_
    refine Xg.at_region ?_
    refine Xg.ops_op (by kernel_rfl) (Xg.opx_pure ((pv xb1 0)) rfl (fun _ => by kernel_rfl) ?_)
    refine Xg.ops_op (by kernel_rfl) (Xg.opx_load (b := xb1) (off := ((0 : Nat))) 0 (iv o.kd) rfl (by kernel_rfl) (by kernel_rfl) (by kernel_rfl) ?_)
    refine Xg.ops_op (by kernel_rfl) (Xg.opx_pure (.bool (decide ((o.kd : Int) = ((1 : Int))))) rfl (fun _ => by kernel_rfl) ?_)
    refine Xg.ops_nil ?_
    refine Xg.at_false (t := decide ((o.kd = (1 : Int)))) (by kernel_rfl) (decide_eq_false (by omega)) ?_
    refine Xg.at_skip ?_
    refine Xg.at_seq ?_
    refine Xg.at_seq ?_
    refine Xg.at_region ?_
    refine Xg.ops_op (by kernel_rfl) (Xg.opx_pure ((pv wb 0)) rfl (fun _ => by kernel_rfl) ?_)
    refine Xg.ops_op (by kernel_rfl) (Xg.opx_pure ((pv wb 0)) rfl (fun _ => by kernel_rfl) ?_)
    refine Xg.ops_op (by kernel_rfl) (Xg.opx_pure ((pv wb 0)) rfl (fun _ => by kernel_rfl) ?_)
    refine Xg.ops_op (by kernel_rfl) (Xg.opx_load (b := wb) (off := ((0 : Nat))) 1 (Value.slice la Ts.length lc) rfl (by kernel_rfl) (by kernel_rfl) (by kernel_rfl) ?_)
    refine Xg.ops_op (by kernel_rfl) (Xg.opx_pure ((iv (↑Ts.length : Int))) rfl (fun _ => by kernel_rfl) ?_)
    refine Xg.ops_op (by kernel_rfl) (Xg.opx_pure (.bool (decide ((((↑Ts.length : Int)) : Int) = ((0 : Int))))) rfl (fun _ => by kernel_rfl) ?_)
    refine Xg.ops_nil ?_
    refine Xg.at_false (t := decide (((↑Ts.length : Int) = (0 : Int)))) (by kernel_rfl) (decide_eq_false (by omega)) ?_
    refine Xg.at_skip ?_
    refine Xg.at_seq ?_
    refine Xg.at_draw [11, 14, 15] [(3, [0, 1, 2, 3, 4, 5, 6, 7, 8, 9, 10, 11, 14], Xg.CellIs (wb) (((0 : Nat))) ((Value.slice la Ts.length lc))), (5, [0, 1, 2, 3, 4, 5, 6, 7, 8, 9, 10, 14], Xg.CellIs (xb1) (((1 : Nat))) ((iv o.p))), (9, [0, 1, 2, 3, 4, 5, 6, 7, 8, 9, 14], Xg.CellIs (wb) (((0 : Nat))) ((Value.slice la Ts.length lc))), (12, [0, 1, 2, 3, 4, 5, 6, 7, 8, 9, 10, 11, 12, 14], (RdIs (2 : Nat) (Value.slice la Ts.length lc) Ts.length (recs thK Ts))), (13, [0, 1, 2, 3, 4, 5, 6, 7, 8, 9, 10, 11, 12, 13, 14], (RdIs (2 : Nat) (Value.slice la Ts.length lc) Ts.length (recs thK Ts)))] (by kernel_rfl) ?_
    refine Xg.any_pure ((pv wb 0)) 0 (by kernel_rfl) rfl (by kernel_rfl) (by kernel_rfl) (by kernel_rfl) (by kernel_rfl) rfl (fun _ => by kernel_rfl) ?_
    refine Xg.any_pure ((pv wb 0)) 1 (by kernel_rfl) rfl (by kernel_rfl) (by kernel_rfl) (by kernel_rfl) (by kernel_rfl) rfl (fun _ => by kernel_rfl) ?_
    refine Xg.any_pure ((pv wb 0)) 2 (by kernel_rfl) rfl (by kernel_rfl) (by kernel_rfl) (by kernel_rfl) (by kernel_rfl) rfl (fun _ => by kernel_rfl) ?_
    refine Xg.any_reads (Value.slice la Ts.length lc) 3 0 (by kernel_rfl) rfl (by kernel_rfl) (by kernel_rfl) (by kernel_rfl) (by kernel_rfl) rfl rfl (by kernel_rfl) (Xg.cell_now (b := wb) (off := ((0 : Nat))) 1 rfl (by kernel_rfl)) (fun _ h => Xg.run_load (by kernel_rfl) (by kernel_rfl) h) ?_
    refine Xg.any_pure ((pv xb1 1)) 4 (by kernel_rfl) rfl (by kernel_rfl) (by kernel_rfl) (by kernel_rfl) (by kernel_rfl) rfl (fun _ => by kernel_rfl) ?_
    refine Xg.any_reads (iv o.p) 5 1 (by kernel_rfl) rfl (by kernel_rfl) (by kernel_rfl) (by kernel_rfl) (by kernel_rfl) rfl rfl (by kernel_rfl) (Xg.cell_now (b := xb1) (off := ((1 : Nat))) 0 rfl (by kernel_rfl)) (fun _ h => Xg.run_load (by kernel_rfl) (by kernel_rfl) h) ?_
    refine Xg.any_pure ((pv wb 0)) 6 (by kernel_rfl) rfl (by kernel_rfl) (by kernel_rfl) (by kernel_rfl) (by kernel_rfl) rfl (fun _ => by kernel_rfl) ?_
    refine Xg.any_pure ((pv wb 0)) 7 (by kernel_rfl) rfl (by kernel_rfl) (by kernel_rfl) (by kernel_rfl) (by kernel_rfl) rfl (fun _ => by kernel_rfl) ?_
    refine Xg.any_pure ((pv wb 0)) 8 (by kernel_rfl) rfl (by kernel_rfl) (by kernel_rfl) (by kernel_rfl) (by kernel_rfl) rfl (fun _ => by kernel_rfl) ?_
    refine Xg.any_reads (Value.slice la Ts.length lc) 9 2 (by kernel_rfl) rfl (by kernel_rfl) (by kernel_rfl) (by kernel_rfl) (by kernel_rfl) rfl rfl (by kernel_rfl) (Xg.cell_now (b := wb) (off := ((0 : Nat))) 1 rfl (by kernel_rfl)) (fun _ h => Xg.run_load (by kernel_rfl) (by kernel_rfl) h) ?_
    refine Xg.any_pure ((iv (↑Ts.length : Int))) 10 (by kernel_rfl) rfl (by kernel_rfl) (by kernel_rfl) (by kernel_rfl) (by kernel_rfl) rfl (fun _ => by kernel_rfl) ?_
    refine Xg.any_each [11, 14] (by kernel_rfl) rfl ⟨?_, ?_, trivial⟩
    refine Xg.comes_act rfl (by kernel_rfl) (by kernel_rfl) (Xg.opx_call1' [] [row xb1 (53 : Nat) [iv o.kd, iv o.p, iv o.n, Value.bool o.b], WL wb la Ts.length lc v2 v3 v4 v5, TH la lc Ts, SchedP (Ts.getD i default).fst r s, RefP (Ts.getD i default).snd r s] (fun _ => by kernel_rfl) (@hpd ) (by kernel_rfl) (by kernel_rfl) (by kernel_rfl) ?_)
    refine Xg.acts (Xg.owes_cell 1 rfl (by kernel_rfl) (Xg.owes_skip (by kernel_rfl) (Xg.owes_skip (by kernel_rfl) (Xg.owes_rd 2 (Xg.reads_own (E := ((74 : Nat))) (sz := ((2 : Nat))) (n := Ts.length) (c := lc) (a := la) (vs := (recs thK Ts))) (by kernel_rfl) (Xg.owes_rd 2 (Xg.reads_own (E := ((74 : Nat))) (sz := ((2 : Nat))) (n := Ts.length) (c := lc) (a := la) (vs := (recs thK Ts))) (by kernel_rfl) Xg.owes_nil))))) ?_
    rotate_left
    refine Xg.comes_act rfl (by kernel_rfl) (by kernel_rfl) (Xg.opx_new 2 [Value.pointer none, Value.pointer none] (by kernel_rfl) (by kernel_rfl) fun xb2 => ?_)
    refine Xg.acts (Xg.owes_cell 2 rfl (by kernel_rfl) (Xg.owes_cell 1 rfl (by kernel_rfl) (Xg.owes_cell 2 rfl (by kernel_rfl) (Xg.owes_rd 3 (Xg.reads_own (E := ((74 : Nat))) (sz := ((2 : Nat))) (n := Ts.length) (c := lc) (a := la) (vs := (recs thK Ts))) (by kernel_rfl) (Xg.owes_rd 3 (Xg.reads_own (E := ((74 : Nat))) (sz := ((2 : Nat))) (n := Ts.length) (c := lc) (a := la) (vs := (recs thK Ts))) (by kernel_rfl) Xg.owes_nil))))) ?_
    rotate_left
    refine Xg.any_reads (.pointer (some (Addr.mk (Xg.blk la) (offA la + i * (2 : Nat)) none))) 12 3 (by kernel_rfl) rfl (by kernel_rfl) (by kernel_rfl) (by kernel_rfl) (by kernel_rfl) rfl rfl (by kernel_rfl) (Xg.rd_now 2 (Xg.reads_own (E := ((74 : Nat))) (sz := ((2 : Nat))) (n := Ts.length) (c := lc) (a := la) (vs := (recs thK Ts))) (by kernel_rfl)) (Xg.run_ix_rd (elem := 74) (kd := .i64) (e := ((↑i : Int))) 2 i (offA la + i * (2 : Nat)) (by kernel_rfl) (by kernel_rfl) (by kernel_rfl) (by kernel_rfl) rfl (by omega) (by rw [Xg.recs_len (wd := 2) (fun _ => rfl)]; omega) (by omega)) ?_
    refine Xg.any_reads (.agg (List.toArray [Value.pointer (some (Addr.mk (Ts.getD i default).fst (0 : Nat) none)), Value.pointer (some (Addr.mk (Ts.getD i default).snd (0 : Nat) none))])) 13 4 (by kernel_rfl) rfl (by kernel_rfl) (by kernel_rfl) (by kernel_rfl) (by kernel_rfl) rfl rfl (by kernel_rfl) (Xg.rd_now 2 (Xg.reads_own (E := ((74 : Nat))) (sz := ((2 : Nat))) (n := Ts.length) (c := lc) (a := la) (vs := (recs thK Ts))) (by kernel_rfl)) (Xg.run_loadn_rd (off0 := (offA la + i * (2 : Nat))) 2 (i * (2 : Nat)) [Value.pointer (some (Addr.mk (Ts.getD i default).fst (0 : Nat) none)), Value.pointer (some (Addr.mk (Ts.getD i default).snd (0 : Nat) none))] (by kernel_rfl) (by kernel_rfl) (by omega) rfl (Xg.recs_at' (wd := 2) (fun _ => rfl) default i (by omega) (by omega) (by kernel_rfl)) (by kernel_rfl)) ?_
    refine Xg.any_each [14] (by kernel_rfl) rfl ⟨?_, trivial⟩
    refine Xg.comes_act rfl (by kernel_rfl) (by kernel_rfl) (Xg.opx_new 2 [Value.pointer none, Value.pointer none] (by kernel_rfl) (by kernel_rfl) fun xb2 => ?_)
    refine Xg.acts (Xg.owes_cell 2 rfl (by kernel_rfl) (Xg.owes_cell 1 rfl (by kernel_rfl) (Xg.owes_cell 2 rfl (by kernel_rfl) (Xg.owes_rd 3 (Xg.reads_own (E := ((74 : Nat))) (sz := ((2 : Nat))) (n := Ts.length) (c := lc) (a := la) (vs := (recs thK Ts))) (by kernel_rfl) (Xg.owes_rd 3 (Xg.reads_own (E := ((74 : Nat))) (sz := ((2 : Nat))) (n := Ts.length) (c := lc) (a := la) (vs := (recs thK Ts))) (by kernel_rfl) Xg.owes_nil))))) ?_
    refine Xg.any_each [15] (by kernel_rfl) rfl ⟨?_, trivial⟩
    refine Xg.comes_act rfl (by kernel_rfl) (by kernel_rfl) (Xg.opx_storen 2 (off := 0) 0 [Value.pointer (some (Addr.mk (Ts.getD i default).fst (0 : Nat) none)), Value.pointer (some (Addr.mk (Ts.getD i default).snd (0 : Nat) none))] (by kernel_rfl) rfl (by kernel_rfl) (by kernel_rfl) rfl (by kernel_rfl) (Nat.le_of_ble_eq_true (by kernel_rfl)) ?_)
    refine Xg.acts (Xg.owes_skip (by kernel_rfl) (Xg.owes_skip (by kernel_rfl) (Xg.owes_skip (by kernel_rfl) (Xg.owes_skip (by kernel_rfl) (Xg.owes_skip (by kernel_rfl) Xg.owes_nil))))) ?_
    refine Xg.any_nil (by kernel_rfl) ?_
    refine Xg.at_seq ?_
    refine Xg.at_seq ?_
    refine Xg.at_region ?_
    refine Xg.ops_op (by kernel_rfl) (Xg.opx_pure ((pv xb1 0)) rfl (fun _ => by kernel_rfl) ?_)
    refine Xg.ops_op (by kernel_rfl) (Xg.opx_load (b := xb1) (off := ((0 : Nat))) 1 (iv o.kd) rfl (by kernel_rfl) (by kernel_rfl) (by kernel_rfl) ?_)
    refine Xg.ops_nil ?_
    refine Xg.at_block ?_
    refine Xg.at_seq ?_
    refine Xg.at_region ?_
    refine Xg.ops_op (by kernel_rfl) (Xg.opx_pure (.bool (decide ((o.kd : Int) = ((2 : Int))))) rfl (fun _ => by kernel_rfl) ?_)
    refine Xg.ops_op (by kernel_rfl) (Xg.opx_pure ((Value.bool (decide (o.kd = (2 : Int))))) rfl (fun _ => by kernel_rfl) ?_)
    refine Xg.ops_nil ?_
    refine Xg.at_true (t := decide ((o.kd = (2 : Int)))) (by kernel_rfl) (decide_eq_true (by omega)) ?_
    refine Xg.at_seq ?_
    refine Xg.at_region ?_
    refine Xg.ops_op (by kernel_rfl) (Xg.opx_pure ((pv xb2 0)) rfl (fun _ => by kernel_rfl) ?_)
    refine Xg.ops_op (by kernel_rfl) (Xg.opx_load (b := xb2) (off := ((0 : Nat))) 0 (Value.pointer (some (Addr.mk (Ts.getD i default).fst (0 : Nat) none))) rfl (by kernel_rfl) (by kernel_rfl) (by kernel_rfl) ?_)
    refine Xg.ops_op (by kernel_rfl) (Xg.opx_pure ((pv xb1 2)) rfl (fun _ => by kernel_rfl) ?_)
    refine Xg.ops_op (by kernel_rfl) (Xg.opx_load (b := xb1) (off := ((2 : Nat))) 1 (iv o.n) rfl (by kernel_rfl) (by kernel_rfl) (by kernel_rfl) ?_)
    refine Xg.ops_op (by kernel_rfl) (Xg.opx_call1' [4] [SchedP (Ts.getD i default).fst r' s', row xb2 (74 : Nat) [Value.pointer (some (Addr.mk (Ts.getD i default).fst (0 : Nat) none)), Value.pointer (some (Addr.mk (Ts.getD i default).snd (0 : Nat) none))], row xb1 (53 : Nat) [iv o.kd, iv o.p, iv o.n, Value.bool o.b], WL wb la Ts.length lc v2 v3 v4 v5, TH la lc Ts, RefP (Ts.getD i default).snd r s] (fun _ => by kernel_rfl) (@hx ) (by kernel_rfl) (by kernel_rfl) (by kernel_rfl) ?_)
    refine Xg.ops_op (by kernel_rfl) (Xg.opx_pure ((iv e)) rfl (fun _ => by kernel_rfl) ?_)
    refine Xg.ops_nil ?_
    refine Xg.at_seq ?_
    refine Xg.at_region ?_
    refine Xg.ops_op (by kernel_rfl) (Xg.opx_pure ((pv xb2 1)) rfl (fun _ => by kernel_rfl) ?_)
    refine Xg.ops_op (by kernel_rfl) (Xg.opx_load (b := xb2) (off := ((1 : Nat))) 1 (Value.pointer (some (Addr.mk (Ts.getD i default).snd (0 : Nat) none))) rfl (by kernel_rfl) (by kernel_rfl) (by kernel_rfl) ?_)
    refine Xg.ops_op (by kernel_rfl) (Xg.opx_pure ((pv xb1 2)) rfl (fun _ => by kernel_rfl) ?_)
    refine Xg.ops_op (by kernel_rfl) (Xg.opx_load (b := xb1) (off := ((2 : Nat))) 2 (iv o.n) rfl (by kernel_rfl) (by kernel_rfl) (by kernel_rfl) ?_)
    refine Xg.ops_op (by kernel_rfl) (Xg.opx_call1' [5] [RefP (Ts.getD i default).snd r' s', SchedP (Ts.getD i default).fst r' s', row xb2 (74 : Nat) [Value.pointer (some (Addr.mk (Ts.getD i default).fst (0 : Nat) none)), Value.pointer (some (Addr.mk (Ts.getD i default).snd (0 : Nat) none))], row xb1 (53 : Nat) [iv o.kd, iv o.p, iv o.n, Value.bool o.b], WL wb la Ts.length lc v2 v3 v4 v5, TH la lc Ts] (fun _ => by kernel_rfl) (@hy ) (by kernel_rfl) (by kernel_rfl) (by kernel_rfl) ?_)
    refine Xg.ops_op (by kernel_rfl) (Xg.opx_pure ((iv e)) rfl (fun _ => by kernel_rfl) ?_)
    refine Xg.ops_nil ?_
    refine Xg.at_seq ?_
    refine Xg.at_region ?_
    refine Xg.ops_op (by kernel_rfl) (Xg.opx_pure ((iv e)) rfl (fun _ => by kernel_rfl) ?_)
    refine Xg.ops_op (by kernel_rfl) (Xg.opx_call1' [] [RefP (Ts.getD i default).snd r' s', SchedP (Ts.getD i default).fst r' s', row xb2 (74 : Nat) [Value.pointer (some (Addr.mk (Ts.getD i default).fst (0 : Nat) none)), Value.pointer (some (Addr.mk (Ts.getD i default).snd (0 : Nat) none))], row xb1 (53 : Nat) [iv o.kd, iv o.p, iv o.n, Value.bool o.b], WL wb la Ts.length lc v2 v3 v4 v5, TH la lc Ts] (fun _ => by kernel_rfl) (@Go.Proofs.Ytijjficnhpokdaa.num_d (e)) (by kernel_rfl) (by kernel_rfl) (by kernel_rfl) ?_)
    refine Xg.ops_op (by kernel_rfl) (Xg.opx_pure ((iv e)) rfl (fun _ => by kernel_rfl) ?_)
    refine Xg.ops_op (by kernel_rfl) (Xg.opx_call1' [] [RefP (Ts.getD i default).snd r' s', SchedP (Ts.getD i default).fst r' s', row xb2 (74 : Nat) [Value.pointer (some (Addr.mk (Ts.getD i default).fst (0 : Nat) none)), Value.pointer (some (Addr.mk (Ts.getD i default).snd (0 : Nat) none))], row xb1 (53 : Nat) [iv o.kd, iv o.p, iv o.n, Value.bool o.b], WL wb la Ts.length lc v2 v3 v4 v5, TH la lc Ts] (fun _ => by kernel_rfl) (@Go.Proofs.Ytijjficnhpokdaa.num_d (e)) (by kernel_rfl) (by kernel_rfl) (by kernel_rfl) ?_)
    refine Xg.ops_op (by kernel_rfl) (Xg.opx_pure (.bool (decide ((e : Int) = e))) rfl (fun _ => by kernel_rfl) ?_)
    refine Xg.ops_op (by kernel_rfl) (Xg.opx_pure ((Value.bool (decide (e = e)))) rfl (fun _ => by kernel_rfl) ?_)
    refine Xg.ops_nil ?_
    refine Xg.at_ret_ps (v := (Value.bool (decide (e = e)))) [4, 5, 1, 0] [WL wb la Ts.length lc v2 v3 v4 v5, TH la lc Ts, SchedP (Ts.getD i default).fst r' s', RefP (Ts.getD i default).snd r' s'] Go.Proofs.Try.func19 (fun _ => by kernel_rfl) (by kernel_rfl) (by kernel_rfl) ?_
    rotate_left
    refine Xg.any_each [11] (by kernel_rfl) rfl ⟨?_, trivial⟩
    refine Xg.comes_act rfl (by kernel_rfl) (by kernel_rfl) (Xg.opx_call1' [] [row xb2 (74 : Nat) [Value.pointer none, Value.pointer none], row xb1 (53 : Nat) [iv o.kd, iv o.p, iv o.n, Value.bool o.b], WL wb la Ts.length lc v2 v3 v4 v5, TH la lc Ts, SchedP (Ts.getD i default).fst r s, RefP (Ts.getD i default).snd r s] (fun _ => by kernel_rfl) (@hpd ) (by kernel_rfl) (by kernel_rfl) (by kernel_rfl) ?_)
    refine Xg.acts (Xg.owes_cell 2 rfl (by kernel_rfl) (Xg.owes_skip (by kernel_rfl) (Xg.owes_skip (by kernel_rfl) (Xg.owes_rd 3 (Xg.reads_own (E := ((74 : Nat))) (sz := ((2 : Nat))) (n := Ts.length) (c := lc) (a := la) (vs := (recs thK Ts))) (by kernel_rfl) (Xg.owes_rd 3 (Xg.reads_own (E := ((74 : Nat))) (sz := ((2 : Nat))) (n := Ts.length) (c := lc) (a := la) (vs := (recs thK Ts))) (by kernel_rfl) Xg.owes_nil))))) ?_
    refine Xg.any_reads (.pointer (some (Addr.mk (Xg.blk la) (offA la + i * (2 : Nat)) none))) 12 3 (by kernel_rfl) rfl (by kernel_rfl) (by kernel_rfl) (by kernel_rfl) (by kernel_rfl) rfl rfl (by kernel_rfl) (Xg.rd_now 3 (Xg.reads_own (E := ((74 : Nat))) (sz := ((2 : Nat))) (n := Ts.length) (c := lc) (a := la) (vs := (recs thK Ts))) (by kernel_rfl)) (Xg.run_ix_rd (elem := 74) (kd := .i64) (e := ((↑i : Int))) 2 i (offA la + i * (2 : Nat)) (by kernel_rfl) (by kernel_rfl) (by kernel_rfl) (by kernel_rfl) rfl (by omega) (by rw [Xg.recs_len (wd := 2) (fun _ => rfl)]; omega) (by omega)) ?_
    refine Xg.any_reads (.agg (List.toArray [Value.pointer (some (Addr.mk (Ts.getD i default).fst (0 : Nat) none)), Value.pointer (some (Addr.mk (Ts.getD i default).snd (0 : Nat) none))])) 13 4 (by kernel_rfl) rfl (by kernel_rfl) (by kernel_rfl) (by kernel_rfl) (by kernel_rfl) rfl rfl (by kernel_rfl) (Xg.rd_now 3 (Xg.reads_own (E := ((74 : Nat))) (sz := ((2 : Nat))) (n := Ts.length) (c := lc) (a := la) (vs := (recs thK Ts))) (by kernel_rfl)) (Xg.run_loadn_rd (off0 := (offA la + i * (2 : Nat))) 2 (i * (2 : Nat)) [Value.pointer (some (Addr.mk (Ts.getD i default).fst (0 : Nat) none)), Value.pointer (some (Addr.mk (Ts.getD i default).snd (0 : Nat) none))] (by kernel_rfl) (by kernel_rfl) (by omega) rfl (Xg.recs_at' (wd := 2) (fun _ => rfl) default i (by omega) (by omega) (by kernel_rfl)) (by kernel_rfl)) ?_
    refine Xg.any_each [15] (by kernel_rfl) rfl ⟨?_, trivial⟩
    refine Xg.comes_act rfl (by kernel_rfl) (by kernel_rfl) (Xg.opx_storen 2 (off := 0) 0 [Value.pointer (some (Addr.mk (Ts.getD i default).fst (0 : Nat) none)), Value.pointer (some (Addr.mk (Ts.getD i default).snd (0 : Nat) none))] (by kernel_rfl) rfl (by kernel_rfl) (by kernel_rfl) rfl (by kernel_rfl) (Nat.le_of_ble_eq_true (by kernel_rfl)) ?_)
    refine Xg.acts (Xg.owes_skip (by kernel_rfl) (Xg.owes_skip (by kernel_rfl) (Xg.owes_skip (by kernel_rfl) (Xg.owes_skip (by kernel_rfl) (Xg.owes_skip (by kernel_rfl) Xg.owes_nil))))) ?_
    refine Xg.any_nil (by kernel_rfl) ?_
    refine Xg.at_seq ?_
    refine Xg.at_seq ?_
    refine Xg.at_region ?_
    refine Xg.ops_op (by kernel_rfl) (Xg.opx_pure ((pv xb1 0)) rfl (fun _ => by kernel_rfl) ?_)
    refine Xg.ops_op (by kernel_rfl) (Xg.opx_load (b := xb1) (off := ((0 : Nat))) 1 (iv o.kd) rfl (by kernel_rfl) (by kernel_rfl) (by kernel_rfl) ?_)
    refine Xg.ops_nil ?_
    refine Xg.at_block ?_
    refine Xg.at_seq ?_
    refine Xg.at_region ?_
    refine Xg.ops_op (by kernel_rfl) (Xg.opx_pure (.bool (decide ((o.kd : Int) = ((2 : Int))))) rfl (fun _ => by kernel_rfl) ?_)
    refine Xg.ops_op (by kernel_rfl) (Xg.opx_pure ((Value.bool (decide (o.kd = (2 : Int))))) rfl (fun _ => by kernel_rfl) ?_)
    refine Xg.ops_nil ?_
    refine Xg.at_true (t := decide ((o.kd = (2 : Int)))) (by kernel_rfl) (decide_eq_true (by omega)) ?_
    refine Xg.at_seq ?_
    refine Xg.at_region ?_
    refine Xg.ops_op (by kernel_rfl) (Xg.opx_pure ((pv xb2 0)) rfl (fun _ => by kernel_rfl) ?_)
    refine Xg.ops_op (by kernel_rfl) (Xg.opx_load (b := xb2) (off := ((0 : Nat))) 0 (Value.pointer (some (Addr.mk (Ts.getD i default).fst (0 : Nat) none))) rfl (by kernel_rfl) (by kernel_rfl) (by kernel_rfl) ?_)
    refine Xg.ops_op (by kernel_rfl) (Xg.opx_pure ((pv xb1 2)) rfl (fun _ => by kernel_rfl) ?_)
    refine Xg.ops_op (by kernel_rfl) (Xg.opx_load (b := xb1) (off := ((2 : Nat))) 1 (iv o.n) rfl (by kernel_rfl) (by kernel_rfl) (by kernel_rfl) ?_)
    refine Xg.ops_op (by kernel_rfl) (Xg.opx_call1' [4] [SchedP (Ts.getD i default).fst r' s', row xb2 (74 : Nat) [Value.pointer (some (Addr.mk (Ts.getD i default).fst (0 : Nat) none)), Value.pointer (some (Addr.mk (Ts.getD i default).snd (0 : Nat) none))], row xb1 (53 : Nat) [iv o.kd, iv o.p, iv o.n, Value.bool o.b], WL wb la Ts.length lc v2 v3 v4 v5, TH la lc Ts, RefP (Ts.getD i default).snd r s] (fun _ => by kernel_rfl) (@hx ) (by kernel_rfl) (by kernel_rfl) (by kernel_rfl) ?_)
    refine Xg.ops_op (by kernel_rfl) (Xg.opx_pure ((iv e)) rfl (fun _ => by kernel_rfl) ?_)
    refine Xg.ops_nil ?_
    refine Xg.at_seq ?_
    refine Xg.at_region ?_
    refine Xg.ops_op (by kernel_rfl) (Xg.opx_pure ((pv xb2 1)) rfl (fun _ => by kernel_rfl) ?_)
    refine Xg.ops_op (by kernel_rfl) (Xg.opx_load (b := xb2) (off := ((1 : Nat))) 1 (Value.pointer (some (Addr.mk (Ts.getD i default).snd (0 : Nat) none))) rfl (by kernel_rfl) (by kernel_rfl) (by kernel_rfl) ?_)
    refine Xg.ops_op (by kernel_rfl) (Xg.opx_pure ((pv xb1 2)) rfl (fun _ => by kernel_rfl) ?_)
    refine Xg.ops_op (by kernel_rfl) (Xg.opx_load (b := xb1) (off := ((2 : Nat))) 2 (iv o.n) rfl (by kernel_rfl) (by kernel_rfl) (by kernel_rfl) ?_)
    refine Xg.ops_op (by kernel_rfl) (Xg.opx_call1' [5] [RefP (Ts.getD i default).snd r' s', SchedP (Ts.getD i default).fst r' s', row xb2 (74 : Nat) [Value.pointer (some (Addr.mk (Ts.getD i default).fst (0 : Nat) none)), Value.pointer (some (Addr.mk (Ts.getD i default).snd (0 : Nat) none))], row xb1 (53 : Nat) [iv o.kd, iv o.p, iv o.n, Value.bool o.b], WL wb la Ts.length lc v2 v3 v4 v5, TH la lc Ts] (fun _ => by kernel_rfl) (@hy ) (by kernel_rfl) (by kernel_rfl) (by kernel_rfl) ?_)
    refine Xg.ops_op (by kernel_rfl) (Xg.opx_pure ((iv e)) rfl (fun _ => by kernel_rfl) ?_)
    refine Xg.ops_nil ?_
    refine Xg.at_seq ?_
    refine Xg.at_region ?_
    refine Xg.ops_op (by kernel_rfl) (Xg.opx_pure ((iv e)) rfl (fun _ => by kernel_rfl) ?_)
    refine Xg.ops_op (by kernel_rfl) (Xg.opx_call1' [] [RefP (Ts.getD i default).snd r' s', SchedP (Ts.getD i default).fst r' s', row xb2 (74 : Nat) [Value.pointer (some (Addr.mk (Ts.getD i default).fst (0 : Nat) none)), Value.pointer (some (Addr.mk (Ts.getD i default).snd (0 : Nat) none))], row xb1 (53 : Nat) [iv o.kd, iv o.p, iv o.n, Value.bool o.b], WL wb la Ts.length lc v2 v3 v4 v5, TH la lc Ts] (fun _ => by kernel_rfl) (@Go.Proofs.Ytijjficnhpokdaa.num_d (e)) (by kernel_rfl) (by kernel_rfl) (by kernel_rfl) ?_)
    refine Xg.ops_op (by kernel_rfl) (Xg.opx_pure ((iv e)) rfl (fun _ => by kernel_rfl) ?_)
    refine Xg.ops_op (by kernel_rfl) (Xg.opx_call1' [] [RefP (Ts.getD i default).snd r' s', SchedP (Ts.getD i default).fst r' s', row xb2 (74 : Nat) [Value.pointer (some (Addr.mk (Ts.getD i default).fst (0 : Nat) none)), Value.pointer (some (Addr.mk (Ts.getD i default).snd (0 : Nat) none))], row xb1 (53 : Nat) [iv o.kd, iv o.p, iv o.n, Value.bool o.b], WL wb la Ts.length lc v2 v3 v4 v5, TH la lc Ts] (fun _ => by kernel_rfl) (@Go.Proofs.Ytijjficnhpokdaa.num_d (e)) (by kernel_rfl) (by kernel_rfl) (by kernel_rfl) ?_)
    refine Xg.ops_op (by kernel_rfl) (Xg.opx_pure (.bool (decide ((e : Int) = e))) rfl (fun _ => by kernel_rfl) ?_)
    refine Xg.ops_op (by kernel_rfl) (Xg.opx_pure ((Value.bool (decide (e = e)))) rfl (fun _ => by kernel_rfl) ?_)
    refine Xg.ops_nil ?_
    refine Xg.at_ret_ps (v := (Value.bool (decide (e = e)))) [4, 5, 1, 0] [WL wb la Ts.length lc v2 v3 v4 v5, TH la lc Ts, SchedP (Ts.getD i default).fst r' s', RefP (Ts.getD i default).snd r' s'] Go.Proofs.Try.func19 (fun _ => by kernel_rfl) (by kernel_rfl) (by kernel_rfl) ?_)
  all_goals exact ⟨by rw [decide_eq_true rfl], rfl⟩
theorem step_remove (hk : o.kd = 3) (hx : Does Try.prog 23 [.pointer (some ⟨(Ts.getD i default).1, 0, none⟩), .int .i64 o.n] [SchedP (Ts.getD i default).1 r s] (Ret (.int .i64 e) [SchedP (Ts.getD i default).1 r' s'])) (hy : Does Try.prog 33 [.pointer (some ⟨(Ts.getD i default).2, 0, none⟩), .int .i64 o.n] [RefP (Ts.getD i default).2 r s] (Ret (.int .i64 e) [RefP (Ts.getD i default).2 r' s'])) : Does Try.prog 19 [.pointer (some ⟨wb, 0, none⟩), spV o] [WL wb la Ts.length lc v2 v3 v4 v5, TH la lc Ts, SchedP (Ts.getD i default).1 r s, RefP (Ts.getD i default).2 r s]
    (Ret (.bool true) [WL wb la Ts.length lc v2 v3 v4 v5, TH la lc Ts, SchedP (Ts.getD i default).1 r' s', RefP (Ts.getD i default).2 r' s']) := by
  have hpd := pick_r o.p Ts.length hp hT
  rw [hi'] at hpd
  (focus
    refine Xg.spec_of Go.Proofs.Try.func19 rfl Go.Proofs.Try.ntmps19 fun g F => ?_)
  (focus
    refine Xg.at_seq ?_
    refine Xg.at_region ?_
    refine Xg.ops_op (by kernel_rfl) (Xg.opx_box (v := (Value.agg #[iv o.kd, iv o.p, iv o.n, Value.bool o.b])) [iv o.kd, iv o.p, iv o.n, Value.bool o.b] (by kernel_rfl) (by kernel_rfl) fun xb1 => ?_)
    refine Xg.ops_op (by kernel_rfl) (Xg.opx_pure ((Value.bool false)) rfl (fun _ => by kernel_rfl) ?_)
    refine Xg.ops_nil ?_
    refine Xg.at_seq ?_
    refine Xg.at_seq ?_
    refine Xg.at_region ?_
    refine Xg.ops_op (by kernel_rfl) (Xg.opx_pure ((pv xb1 0)) rfl (fun _ => by kernel_rfl) ?_)
    refine Xg.ops_op (by kernel_rfl) (Xg.opx_load (b := xb1) (off := ((0 : Nat))) 0 (iv o.kd) rfl (by kernel_rfl) (by kernel_rfl) (by kernel_rfl) ?_)
    refine Xg.ops_op (by kernel_rfl) (Xg.opx_pure (.bool (decide ((o.kd : Int) = ((1 : Int))))) rfl (fun _ => by kernel_rfl) ?_)
    refine Xg.ops_nil ?_
    refine Xg.at_false (t := decide ((o.kd = (1 : Int)))) (by kernel_rfl) (decide_eq_false (by omega)) ?_
    refine Xg.at_skip ?_
    refine Xg.at_seq ?_
    refine Xg.at_seq ?_
    refine Xg.at_region ?_
    refine Xg.ops_op (by kernel_rfl) (Xg.opx_pure ((pv wb 0)) rfl (fun _ => by kernel_rfl) ?_)
    refine Xg.ops_op (by kernel_rfl) (Xg.opx_pure ((pv wb 0)) rfl (fun _ => by kernel_rfl) ?_)
    refine Xg.ops_op (by kernel_rfl) (Xg.opx_pure ((pv wb 0)) rfl (fun _ => by kernel_rfl) ?_)
    refine Xg.ops_op (by kernel_rfl) (Xg.opx_load (b := wb) (off := ((0 : Nat))) 1 (Value.slice la Ts.length lc) rfl (by kernel_rfl) (by kernel_rfl) (by kernel_rfl) ?_)
    refine Xg.ops_op (by kernel_rfl) (Xg.opx_pure ((iv (↑Ts.length : Int))) rfl (fun _ => by kernel_rfl) ?_)
    refine Xg.ops_op (by kernel_rfl) (Xg.opx_pure (.bool (decide ((((↑Ts.length : Int)) : Int) = ((0 : Int))))) rfl (fun _ => by kernel_rfl) ?_)
    refine Xg.ops_nil ?_
    refine Xg.at_false (t := decide (((↑Ts.length : Int) = (0 : Int)))) (by kernel_rfl) (decide_eq_false (by omega)) ?_
    refine Xg.at_skip ?_
    refine Xg.at_seq ?_
    refine Xg.at_draw [11, 14, 15] [(3, [0, 1, 2, 3, 4, 5, 6, 7, 8, 9, 10, 11, 14], Xg.CellIs (wb) (((0 : Nat))) ((Value.slice la Ts.length lc))), (5, [0, 1, 2, 3, 4, 5, 6, 7, 8, 9, 10, 14], Xg.CellIs (xb1) (((1 : Nat))) ((iv o.p))), (9, [0, 1, 2, 3, 4, 5, 6, 7, 8, 9, 14], Xg.CellIs (wb) (((0 : Nat))) ((Value.slice la Ts.length lc))), (12, [0, 1, 2, 3, 4, 5, 6, 7, 8, 9, 10, 11, 12, 14], (RdIs (2 : Nat) (Value.slice la Ts.length lc) Ts.length (recs thK Ts))), (13, [0, 1, 2, 3, 4, 5, 6, 7, 8, 9, 10, 11, 12, 13, 14], (RdIs (2 : Nat) (Value.slice la Ts.length lc) Ts.length (recs thK Ts)))] (by kernel_rfl) ?_
    refine Xg.any_pure ((pv wb 0)) 0 (by kernel_rfl) rfl (by kernel_rfl) (by kernel_rfl) (by kernel_rfl) (by kernel_rfl) rfl (fun _ => by kernel_rfl) ?_
    refine Xg.any_pure ((pv wb 0)) 1 (by kernel_rfl) rfl (by kernel_rfl) (by kernel_rfl) (by kernel_rfl) (by kernel_rfl) rfl (fun _ => by kernel_rfl) ?_
    refine Xg.any_pure ((pv wb 0)) 2 (by kernel_rfl) rfl (by kernel_rfl) (by kernel_rfl) (by kernel_rfl) (by kernel_rfl) rfl (fun _ => by kernel_rfl) ?_
    refine Xg.any_reads (Value.slice la Ts.length lc) 3 0 (by kernel_rfl) rfl (by kernel_rfl) (by kernel_rfl) (by kernel_rfl) (by kernel_rfl) rfl rfl (by kernel_rfl) (Xg.cell_now (b := wb) (off := ((0 : Nat))) 1 rfl (by kernel_rfl)) (fun _ h => Xg.run_load (by kernel_rfl) (by kernel_rfl) h) ?_
    refine Xg.any_pure ((pv xb1 1)) 4 (by kernel_rfl) rfl (by kernel_rfl) (by kernel_rfl) (by kernel_rfl) (by kernel_rfl) rfl (fun _ => by kernel_rfl) ?_
    refine Xg.any_reads (iv o.p) 5 1 (by kernel_rfl) rfl (by kernel_rfl) (by kernel_rfl) (by kernel_rfl) (by kernel_rfl) rfl rfl (by kernel_rfl) (Xg.cell_now (b := xb1) (off := ((1 : Nat))) 0 rfl (by kernel_rfl)) (fun _ h => Xg.run_load (by kernel_rfl) (by kernel_rfl) h) ?_
    refine Xg.any_pure ((pv wb 0)) 6 (by kernel_rfl) rfl (by kernel_rfl) (by kernel_rfl) (by kernel_rfl) (by kernel_rfl) rfl (fun _ => by kernel_rfl) ?_
    refine Xg.any_pure ((pv wb 0)) 7 (by kernel_rfl) rfl (by kernel_rfl) (by kernel_rfl) (by kernel_rfl) (by kernel_rfl) rfl (fun _ => by kernel_rfl) ?_
    refine Xg.any_pure ((pv wb 0)) 8 (by kernel_rfl) rfl (by kernel_rfl) (by kernel_rfl) (by kernel_rfl) (by kernel_rfl) rfl (fun _ => by kernel_rfl) ?_
    refine Xg.any_reads (Value.slice la Ts.length lc) 9 2 (by kernel_rfl) rfl (by kernel_rfl) (by kernel_rfl) (by kernel_rfl) (by kernel_rfl) rfl rfl (by kernel_rfl) (Xg.cell_now (b := wb) (off := ((0 : Nat))) 1 rfl (by kernel_rfl)) (fun _ h => Xg.run_load (by kernel_rfl) (by kernel_rfl) h) ?_
    refine Xg.any_pure ((iv (↑Ts.length : Int))) 10 (by kernel_rfl) rfl (by kernel_rfl) (by kernel_rfl) (by kernel_rfl) (by kernel_rfl) rfl (fun _ => by kernel_rfl) ?_
    refine Xg.any_each [11, 14] (by kernel_rfl) rfl ⟨?_, ?_, trivial⟩
    refine Xg.comes_act rfl (by kernel_rfl) (by kernel_rfl) (Xg.opx_call1' [] [row xb1 (53 : Nat) [iv o.kd, iv o.p, iv o.n, Value.bool o.b], WL wb la Ts.length lc v2 v3 v4 v5, TH la lc Ts, SchedP (Ts.getD i default).fst r s, RefP (Ts.getD i default).snd r s] (fun _ => by kernel_rfl) (@hpd ) (by kernel_rfl) (by kernel_rfl) (by kernel_rfl) ?_)
    refine Xg.acts (Xg.owes_cell 1 rfl (by kernel_rfl) (Xg.owes_skip (by kernel_rfl) (Xg.owes_skip (by kernel_rfl) (Xg.owes_rd 2 (Xg.reads_own (E := ((74 : Nat))) (sz := ((2 : Nat))) (n := Ts.length) (c := lc) (a := la) (vs := (recs thK Ts))) (by kernel_rfl) (Xg.owes_rd 2 (Xg.reads_own (E := ((74 : Nat))) (sz := ((2 : Nat))) (n := Ts.length) (c := lc) (a := la) (vs := (recs thK Ts))) (by kernel_rfl) Xg.owes_nil))))) ?_
    rotate_left
    refine Xg.comes_act rfl (by kernel_rfl) (by kernel_rfl) (Xg.opx_new 2 [Value.pointer none, Value.pointer none] (by kernel_rfl) (by kernel_rfl) fun xb2 => ?_)
    refine Xg.acts (Xg.owes_cell 2 rfl (by kernel_rfl) (Xg.owes_cell 1 rfl (by kernel_rfl) (Xg.owes_cell 2 rfl (by kernel_rfl) (Xg.owes_rd 3 (Xg.reads_own (E := ((74 : Nat))) (sz := ((2 : Nat))) (n := Ts.length) (c := lc) (a := la) (vs := (recs thK Ts))) (by kernel_rfl) (Xg.owes_rd 3 (Xg.reads_own (E := ((74 : Nat))) (sz := ((2 : Nat))) (n := Ts.length) (c := lc) (a := la) (vs := (recs thK Ts))) (by kernel_rfl) Xg.owes_nil))))) ?_
    rotate_left
    refine Xg.any_reads (.pointer (some (Addr.mk (Xg.blk la) (offA la + i * (2 : Nat)) none))) 12 3 (by kernel_rfl) rfl (by kernel_rfl) (by kernel_rfl) (by kernel_rfl) (by kernel_rfl) rfl rfl (by kernel_rfl) (Xg.rd_now 2 (Xg.reads_own (E := ((74 : Nat))) (sz := ((2 : Nat))) (n := Ts.length) (c := lc) (a := la) (vs := (recs thK Ts))) (by kernel_rfl)) (Xg.run_ix_rd (elem := 74) (kd := .i64) (e := ((↑i : Int))) 2 i (offA la + i * (2 : Nat)) (by kernel_rfl) (by kernel_rfl) (by kernel_rfl) (by kernel_rfl) rfl (by omega) (by rw [Xg.recs_len (wd := 2) (fun _ => rfl)]; omega) (by omega)) ?_
    refine Xg.any_reads (.agg (List.toArray [Value.pointer (some (Addr.mk (Ts.getD i default).fst (0 : Nat) none)), Value.pointer (some (Addr.mk (Ts.getD i default).snd (0 : Nat) none))])) 13 4 (by kernel_rfl) rfl (by kernel_rfl) (by kernel_rfl) (by kernel_rfl) (by kernel_rfl) rfl rfl (by kernel_rfl) (Xg.rd_now 2 (Xg.reads_own (E := ((74 : Nat))) (sz := ((2 : Nat))) (n := Ts.length) (c := lc) (a := la) (vs := (recs thK Ts))) (by kernel_rfl)) (Xg.run_loadn_rd (off0 := (offA la + i * (2 : Nat))) 2 (i * (2 : Nat)) [Value.pointer (some (Addr.mk (Ts.getD i default).fst (0 : Nat) none)), Value.pointer (some (Addr.mk (Ts.getD i default).snd (0 : Nat) none))] (by kernel_rfl) (by kernel_rfl) (by omega) rfl (Xg.recs_at' (wd := 2) (fun _ => rfl) default i (by omega) (by omega) (by kernel_rfl)) (by kernel_rfl)) ?_
    refine Xg.any_each [14] (by kernel_rfl) rfl ⟨?_, trivial⟩
    refine Xg.comes_act rfl (by kernel_rfl) (by kernel_rfl) (Xg.opx_new 2 [Value.pointer none, Value.pointer none] (by kernel_rfl) (by kernel_rfl) fun xb2 => ?_)
    refine Xg.acts (Xg.owes_cell 2 rfl (by kernel_rfl) (Xg.owes_cell 1 rfl (by kernel_rfl) (Xg.owes_cell 2 rfl (by kernel_rfl) (Xg.owes_rd 3 (Xg.reads_own (E := ((74 : Nat))) (sz := ((2 : Nat))) (n := Ts.length) (c := lc) (a := la) (vs := (recs thK Ts))) (by kernel_rfl) (Xg.owes_rd 3 (Xg.reads_own (E := ((74 : Nat))) (sz := ((2 : Nat))) (n := Ts.length) (c := lc) (a := la) (vs := (recs thK Ts))) (by kernel_rfl) Xg.owes_nil))))) ?_
    refine Xg.any_each [15] (by kernel_rfl) rfl ⟨?_, trivial⟩
    refine Xg.comes_act rfl (by kernel_rfl) (by kernel_rfl) (Xg.opx_storen 2 (off := 0) 0 [Value.pointer (some (Addr.mk (Ts.getD i default).fst (0 : Nat) none)), Value.pointer (some (Addr.mk (Ts.getD i default).snd (0 : Nat) none))] (by kernel_rfl) rfl (by kernel_rfl) (by kernel_rfl) rfl (by kernel_rfl) (Nat.le_of_ble_eq_true (by kernel_rfl)) ?_)
    refine Xg.acts (Xg.owes_skip (by kernel_rfl) (Xg.owes_skip (by kernel_rfl) (Xg.owes_skip (by kernel_rfl) (Xg.owes_skip (by kernel_rfl) (Xg.owes_skip (by kernel_rfl) Xg.owes_nil))))) ?_
    refine Xg.any_nil (by kernel_rfl) ?_
    refine Xg.at_seq ?_
    refine Xg.at_seq ?_
    refine Xg.at_region ?_
    refine Xg.ops_op (by kernel_rfl) (Xg.opx_pure ((pv xb1 0)) rfl (fun _ => by kernel_rfl) ?_)
    refine Xg.ops_op (by kernel_rfl) (Xg.opx_load (b := xb1) (off := ((0 : Nat))) 1 (iv o.kd) rfl (by kernel_rfl) (by kernel_rfl) (by kernel_rfl) ?_)
    refine Xg.ops_nil ?_
    refine Xg.at_block ?_
    refine Xg.at_seq ?_
    refine Xg.at_region ?_
    refine Xg.ops_op (by kernel_rfl) (Xg.opx_pure (.bool (decide ((o.kd : Int) = ((2 : Int))))) rfl (fun _ => by kernel_rfl) ?_)
    refine Xg.ops_op (by kernel_rfl) (Xg.opx_pure ((Value.bool (decide (o.kd = (2 : Int))))) rfl (fun _ => by kernel_rfl) ?_)
    refine Xg.ops_nil ?_
    refine Xg.at_false (t := decide ((o.kd = (2 : Int)))) (by kernel_rfl) (decide_eq_false (by omega)) ?_
    refine Xg.at_seq ?_
    refine Xg.at_region ?_
    refine Xg.ops_op (by kernel_rfl) (Xg.opx_pure (.bool (decide ((o.kd : Int) = ((3 : Int))))) rfl (fun _ => by kernel_rfl) ?_)
    refine Xg.ops_op (by kernel_rfl) (Xg.opx_pure ((Value.bool (decide (o.kd = (3 : Int))))) rfl (fun _ => by kernel_rfl) ?_)
    refine Xg.ops_nil ?_
    refine Xg.at_true (t := decide ((o.kd = (3 : Int)))) (by kernel_rfl) (decide_eq_true (by omega)) ?_
    refine Xg.at_seq ?_
    refine Xg.at_region ?_
    refine Xg.ops_op (by kernel_rfl) (Xg.opx_pure ((pv xb2 0)) rfl (fun _ => by kernel_rfl) ?_)
    refine Xg.ops_op (by kernel_rfl) (Xg.opx_load (b := xb2) (off := ((0 : Nat))) 0 (Value.pointer (some (Addr.mk (Ts.getD i default).fst (0 : Nat) none))) rfl (by kernel_rfl) (by kernel_rfl) (by kernel_rfl) ?_)
    refine Xg.ops_op (by kernel_rfl) (Xg.opx_pure ((pv xb1 2)) rfl (fun _ => by kernel_rfl) ?_)
    refine Xg.ops_op (by kernel_rfl) (Xg.opx_load (b := xb1) (off := ((2 : Nat))) 1 (iv o.n) rfl (by kernel_rfl) (by kernel_rfl) (by kernel_rfl) ?_)
    refine Xg.ops_op (by kernel_rfl) (Xg.opx_call1' [4] [SchedP (Ts.getD i default).fst r' s', row xb2 (74 : Nat) [Value.pointer (some (Addr.mk (Ts.getD i default).fst (0 : Nat) none)), Value.pointer (some (Addr.mk (Ts.getD i default).snd (0 : Nat) none))], row xb1 (53 : Nat) [iv o.kd, iv o.p, iv o.n, Value.bool o.b], WL wb la Ts.length lc v2 v3 v4 v5, TH la lc Ts, RefP (Ts.getD i default).snd r s] (fun _ => by kernel_rfl) (@hx ) (by kernel_rfl) (by kernel_rfl) (by kernel_rfl) ?_)
    refine Xg.ops_op (by kernel_rfl) (Xg.opx_pure ((iv e)) rfl (fun _ => by kernel_rfl) ?_)
    refine Xg.ops_nil ?_
    refine Xg.at_seq ?_
    refine Xg.at_region ?_
    refine Xg.ops_op (by kernel_rfl) (Xg.opx_pure ((pv xb2 1)) rfl (fun _ => by kernel_rfl) ?_)
    refine Xg.ops_op (by kernel_rfl) (Xg.opx_load (b := xb2) (off := ((1 : Nat))) 1 (Value.pointer (some (Addr.mk (Ts.getD i default).snd (0 : Nat) none))) rfl (by kernel_rfl) (by kernel_rfl) (by kernel_rfl) ?_)
    refine Xg.ops_op (by kernel_rfl) (Xg.opx_pure ((pv xb1 2)) rfl (fun _ => by kernel_rfl) ?_)
    refine Xg.ops_op (by kernel_rfl) (Xg.opx_load (b := xb1) (off := ((2 : Nat))) 2 (iv o.n) rfl (by kernel_rfl) (by kernel_rfl) (by kernel_rfl) ?_)
    refine Xg.ops_op (by kernel_rfl) (Xg.opx_call1' [5] [RefP (Ts.getD i default).snd r' s', SchedP (Ts.getD i default).fst r' s', row xb2 (74 : Nat) [Value.pointer (some (Addr.mk (Ts.getD i default).fst (0 : Nat) none)), Value.pointer (some (Addr.mk (Ts.getD i default).snd (0 : Nat) none))], row xb1 (53 : Nat) [iv o.kd, iv o.p, iv o.n, Value.bool o.b], WL wb la Ts.length lc v2 v3 v4 v5, TH la lc Ts] (fun _ => by kernel_rfl) (@hy ) (by kernel_rfl) (by kernel_rfl) (by kernel_rfl) ?_)
    refine Xg.ops_op (by kernel_rfl) (Xg.opx_pure ((iv e)) rfl (fun _ => by kernel_rfl) ?_)
    refine Xg.ops_nil ?_
    refine Xg.at_seq ?_
    refine Xg.at_region ?_
    refine Xg.ops_op (by kernel_rfl) (Xg.opx_pure ((iv e)) rfl (fun _ => by kernel_rfl) ?_)
    refine Xg.ops_op (by kernel_rfl) (Xg.opx_call1' [] [RefP (Ts.getD i default).snd r' s', SchedP (Ts.getD i default).fst r' s', row xb2 (74 : Nat) [Value.pointer (some (Addr.mk (Ts.getD i default).fst (0 : Nat) none)), Value.pointer (some (Addr.mk (Ts.getD i default).snd (0 : Nat) none))], row xb1 (53 : Nat) [iv o.kd, iv o.p, iv o.n, Value.bool o.b], WL wb la Ts.length lc v2 v3 v4 v5, TH la lc Ts] (fun _ => by kernel_rfl) (@Go.Proofs.Ytijjficnhpokdaa.num_d (e)) (by kernel_rfl) (by kernel_rfl) (by kernel_rfl) ?_)
    refine Xg.ops_op (by kernel_rfl) (Xg.opx_pure ((iv e)) rfl (fun _ => by kernel_rfl) ?_)
    refine Xg.ops_op (by kernel_rfl) (Xg.opx_call1' [] [RefP (Ts.getD i default).snd r' s', SchedP (Ts.getD i default).fst r' s', row xb2 (74 : Nat) [Value.pointer (some (Addr.mk (Ts.getD i default).fst (0 : Nat) none)), Value.pointer (some (Addr.mk (Ts.getD i default).snd (0 : Nat) none))], row xb1 (53 : Nat) [iv o.kd, iv o.p, iv o.n, Value.bool o.b], WL wb la Ts.length lc v2 v3 v4 v5, TH la lc Ts] (fun _ => by kernel_rfl) (@Go.Proofs.Ytijjficnhpokdaa.num_d (e)) (by kernel_rfl) (by kernel_rfl) (by kernel_rfl) ?_)
    refine Xg.ops_op (by kernel_rfl) (Xg.opx_pure (.bool (decide ((e : Int) = e))) rfl (fun _ => by kernel_rfl) ?_)
    refine Xg.ops_op (by kernel_rfl) (Xg.opx_pure ((Value.bool (decide (e = e)))) rfl (fun _ => by kernel_rfl) ?_)
    refine Xg.ops_nil ?_
    refine Xg.at_ret_ps (v := (Value.bool (decide (e = e)))) [4, 5, 1, 0] [WL wb la Ts.length lc v2 v3 v4 v5, TH la lc Ts, SchedP (Ts.getD i default).fst r' s', RefP (Ts.getD i default).snd r' s'] Go.Proofs.Try.func19 (fun _ => by kernel_rfl) (by kernel_rfl) (by kernel_rfl) ?_
    rotate_left
    refine Xg.any_each [11] (by kernel_rfl) rfl ⟨?_, trivial⟩
    refine Xg.comes_act rfl (by kernel_rfl) (by kernel_rfl) (Xg.opx_call1' [] [row xb2 (74 : Nat) [Value.pointer none, Value.pointer none], row xb1 (53 : Nat) [iv o.kd, iv o.p, iv o.n, Value.bool o.b], WL wb la Ts.length lc v2 v3 v4 v5, TH la lc Ts, SchedP (Ts.getD i default).fst r s, RefP (Ts.getD i default).snd r s] (fun _ => by kernel_rfl) (@hpd ) (by kernel_rfl) (by kernel_rfl) (by kernel_rfl) ?_)
    refine Xg.acts (Xg.owes_cell 2 rfl (by kernel_rfl) (Xg.owes_skip (by kernel_rfl) (Xg.owes_skip (by kernel_rfl) (Xg.owes_rd 3 (Xg.reads_own (E := ((74 : Nat))) (sz := ((2 : Nat))) (n := Ts.length) (c := lc) (a := la) (vs := (recs thK Ts))) (by kernel_rfl) (Xg.owes_rd 3 (Xg.reads_own (E := ((74 : Nat))) (sz := ((2 : Nat))) (n := Ts.length) (c := lc) (a := la) (vs := (recs thK Ts))) (by kernel_rfl) Xg.owes_nil))))) ?_
    refine Xg.any_reads (.pointer (some (Addr.mk (Xg.blk la) (offA la + i * (2 : Nat)) none))) 12 3 (by kernel_rfl) rfl (by kernel_rfl) (by kernel_rfl) (by kernel_rfl) (by kernel_rfl) rfl rfl (by kernel_rfl) (Xg.rd_now 3 (Xg.reads_own (E := ((74 : Nat))) (sz := ((2 : Nat))) (n := Ts.length) (c := lc) (a := la) (vs := (recs thK Ts))) (by kernel_rfl)) (Xg.run_ix_rd (elem := 74) (kd := .i64) (e := ((↑i : Int))) 2 i (offA la + i * (2 : Nat)) (by kernel_rfl) (by kernel_rfl) (by kernel_rfl) (by kernel_rfl) rfl (by omega) (by rw [Xg.recs_len (wd := 2) (fun _ => rfl)]; omega) (by omega)) ?_
    refine Xg.any_reads (.agg (List.toArray [Value.pointer (some (Addr.mk (Ts.getD i default).fst (0 : Nat) none)), Value.pointer (some (Addr.mk (Ts.getD i default).snd (0 : Nat) none))])) 13 4 (by kernel_rfl) rfl (by kernel_rfl) (by kernel_rfl) (by kernel_rfl) (by kernel_rfl) rfl rfl (by kernel_rfl) (Xg.rd_now 3 (Xg.reads_own (E := ((74 : Nat))) (sz := ((2 : Nat))) (n := Ts.length) (c := lc) (a := la) (vs := (recs thK Ts))) (by kernel_rfl)) (Xg.run_loadn_rd (off0 := (offA la + i * (2 : Nat))) 2 (i * (2 : Nat)) [Value.pointer (some (Addr.mk (Ts.getD i default).fst (0 : Nat) none)), Value.pointer (some (Addr.mk (Ts.getD i default).snd (0 : Nat) none))] (by kernel_rfl) (by kernel_rfl) (by omega) rfl (Xg.recs_at' (wd := 2) (fun _ => rfl) default i (by omega) (by omega) (by kernel_rfl)) (by kernel_rfl)) ?_
    refine Xg.any_each [15] (by kernel_rfl) rfl ⟨?_, trivial⟩
    refine Xg.comes_act rfl (by kernel_rfl) (by kernel_rfl) (Xg.opx_storen 2 (off := 0) 0 [Value.pointer (some (Addr.mk (Ts.getD i default).fst (0 : Nat) none)), Value.pointer (some (Addr.mk (Ts.getD i default).snd (0 : Nat) none))] (by kernel_rfl) rfl (by kernel_rfl) (by kernel_rfl) rfl (by kernel_rfl) (Nat.le_of_ble_eq_true (by kernel_rfl)) ?_)
    refine Xg.acts (Xg.owes_skip (by kernel_rfl) (Xg.owes_skip (by kernel_rfl) (Xg.owes_skip (by kernel_rfl) (Xg.owes_skip (by kernel_rfl) (Xg.owes_skip (by kernel_rfl) Xg.owes_nil))))) ?_
    refine Xg.any_nil (by kernel_rfl) ?_
    refine Xg.at_seq ?_
    refine Xg.at_seq ?_
    refine Xg.at_region ?_
    refine Xg.ops_op (by kernel_rfl) (Xg.opx_pure ((pv xb1 0)) rfl (fun _ => by kernel_rfl) ?_)
    refine Xg.ops_op (by kernel_rfl) (Xg.opx_load (b := xb1) (off := ((0 : Nat))) 1 (iv o.kd) rfl (by kernel_rfl) (by kernel_rfl) (by kernel_rfl) ?_)
    refine Xg.ops_nil ?_
    refine Xg.at_block ?_
    refine Xg.at_seq ?_
    refine Xg.at_region ?_
    refine Xg.ops_op (by kernel_rfl) (Xg.opx_pure (.bool (decide ((o.kd : Int) = ((2 : Int))))) rfl (fun _ => by kernel_rfl) ?_)
    refine Xg.ops_op (by kernel_rfl) (Xg.opx_pure ((Value.bool (decide (o.kd = (2 : Int))))) rfl (fun _ => by kernel_rfl) ?_)
    refine Xg.ops_nil ?_
    refine Xg.at_false (t := decide ((o.kd = (2 : Int)))) (by kernel_rfl) (decide_eq_false (by omega)) ?_
    refine Xg.at_seq ?_
    refine Xg.at_region ?_
    refine Xg.ops_op (by kernel_rfl) (Xg.opx_pure (.bool (decide ((o.kd : Int) = ((3 : Int))))) rfl (fun _ => by kernel_rfl) ?_)
    refine Xg.ops_op (by kernel_rfl) (Xg.opx_pure ((Value.bool (decide (o.kd = (3 : Int))))) rfl (fun _ => by kernel_rfl) ?_)
    refine Xg.ops_nil ?_
    refine Xg.at_true (t := decide ((o.kd = (3 : Int)))) (by kernel_rfl) (decide_eq_true (by omega)) ?_
    refine Xg.at_seq ?_
    refine Xg.at_region ?_
    refine Xg.ops_op (by kernel_rfl) (Xg.opx_pure ((pv xb2 0)) rfl (fun _ => by kernel_rfl) ?_)
    refine Xg.ops_op (by kernel_rfl) (Xg.opx_load (b := xb2) (off := ((0 : Nat))) 0 (Value.pointer (some (Addr.mk (Ts.getD i default).fst (0 : Nat) none))) rfl (by kernel_rfl) (by kernel_rfl) (by kernel_rfl) ?_)
    refine Xg.ops_op (by kernel_rfl) (Xg.opx_pure ((pv xb1 2)) rfl (fun _ => by kernel_rfl) ?_)
    refine Xg.ops_op (by kernel_rfl) (Xg.opx_load (b := xb1) (off := ((2 : Nat))) 1 (iv o.n) rfl (by kernel_rfl) (by kernel_rfl) (by kernel_rfl) ?_)
    refine Xg.ops_op (by kernel_rfl) (Xg.opx_call1' [4] [SchedP (Ts.getD i default).fst r' s', row xb2 (74 : Nat) [Value.pointer (some (Addr.mk (Ts.getD i default).fst (0 : Nat) none)), Value.pointer (some (Addr.mk (Ts.getD i default).snd (0 : Nat) none))], row xb1 (53 : Nat) [iv o.kd, iv o.p, iv o.n, Value.bool o.b], WL wb la Ts.length lc v2 v3 v4 v5, TH la lc Ts, RefP (Ts.getD i default).snd r s] (fun _ => by kernel_rfl) (@hx ) (by kernel_rfl) (by kernel_rfl) (by kernel_rfl) ?_)
    refine Xg.ops_op (by kernel_rfl) (Xg.opx_pure ((iv e)) rfl (fun _ => by kernel_rfl) ?_)
    refine Xg.ops_nil ?_
    refine Xg.at_seq ?_
    refine Xg.at_region ?_
    refine Xg.ops_op (by kernel_rfl) (Xg.opx_pure ((pv xb2 1)) rfl (fun _ => by kernel_rfl) ?_)
    refine Xg.ops_op (by kernel_rfl) (Xg.opx_load (b := xb2) (off := ((1 : Nat))) 1 (Value.pointer (some (Addr.mk (Ts.getD i default).snd (0 : Nat) none))) rfl (by kernel_rfl) (by kernel_rfl) (by kernel_rfl) ?_)
    refine Xg.ops_op (by kernel_rfl) (Xg.opx_pure ((pv xb1 2)) rfl (fun _ => by kernel_rfl) ?_)
    refine Xg.ops_op (by kernel_rfl) (Xg.opx_load (b := xb1) (off := ((2 : Nat))) 2 (iv o.n) rfl (by kernel_rfl) (by kernel_rfl) (by kernel_rfl) ?_)
    refine Xg.ops_op (by kernel_rfl) (Xg.opx_call1' [5] [RefP (Ts.getD i default).snd r' s', SchedP (Ts.getD i default).fst r' s', row xb2 (74 : Nat) [Value.pointer (some (Addr.mk (Ts.getD i default).fst (0 : Nat) none)), Value.pointer (some (Addr.mk (Ts.getD i default).snd (0 : Nat) none))], row xb1 (53 : Nat) [iv o.kd, iv o.p, iv o.n, Value.bool o.b], WL wb la Ts.length lc v2 v3 v4 v5, TH la lc Ts] (fun _ => by kernel_rfl) (@hy ) (by kernel_rfl) (by kernel_rfl) (by kernel_rfl) ?_)
    refine Xg.ops_op (by kernel_rfl) (Xg.opx_pure ((iv e)) rfl (fun _ => by kernel_rfl) ?_)
    refine Xg.ops_nil ?_
    refine Xg.at_seq ?_
    refine Xg.at_region ?_
    refine Xg.ops_op (by kernel_rfl) (Xg.opx_pure ((iv e)) rfl (fun _ => by kernel_rfl) ?_)
    refine Xg.ops_op (by kernel_rfl) (Xg.opx_call1' [] [RefP (Ts.getD i default).snd r' s', SchedP (Ts.getD i default).fst r' s', row xb2 (74 : Nat) [Value.pointer (some (Addr.mk (Ts.getD i default).fst (0 : Nat) none)), Value.pointer (some (Addr.mk (Ts.getD i default).snd (0 : Nat) none))], row xb1 (53 : Nat) [iv o.kd, iv o.p, iv o.n, Value.bool o.b], WL wb la Ts.length lc v2 v3 v4 v5, TH la lc Ts] (fun _ => by kernel_rfl) (@Go.Proofs.Ytijjficnhpokdaa.num_d (e)) (by kernel_rfl) (by kernel_rfl) (by kernel_rfl) ?_)
    refine Xg.ops_op (by kernel_rfl) (Xg.opx_pure ((iv e)) rfl (fun _ => by kernel_rfl) ?_)
    refine Xg.ops_op (by kernel_rfl) (Xg.opx_call1' [] [RefP (Ts.getD i default).snd r' s', SchedP (Ts.getD i default).fst r' s', row xb2 (74 : Nat) [Value.pointer (some (Addr.mk (Ts.getD i default).fst (0 : Nat) none)), Value.pointer (some (Addr.mk (Ts.getD i default).snd (0 : Nat) none))], row xb1 (53 : Nat) [iv o.kd, iv o.p, iv o.n, Value.bool o.b], WL wb la Ts.length lc v2 v3 v4 v5, TH la lc Ts] (fun _ => by kernel_rfl) (@Go.Proofs.Ytijjficnhpokdaa.num_d (e)) (by kernel_rfl) (by kernel_rfl) (by kernel_rfl) ?_)
    refine Xg.ops_op (by kernel_rfl) (Xg.opx_pure (.bool (decide ((e : Int) = e))) rfl (fun _ => by kernel_rfl) ?_)
    refine Xg.ops_op (by kernel_rfl) (Xg.opx_pure ((Value.bool (decide (e = e)))) rfl (fun _ => by kernel_rfl) ?_)
    refine Xg.ops_nil ?_
    refine Xg.at_ret_ps (v := (Value.bool (decide (e = e)))) [4, 5, 1, 0] [WL wb la Ts.length lc v2 v3 v4 v5, TH la lc Ts, SchedP (Ts.getD i default).fst r' s', RefP (Ts.getD i default).snd r' s'] Go.Proofs.Try.func19 (fun _ => by kernel_rfl) (by kernel_rfl) (by kernel_rfl) ?_)
  all_goals exact ⟨by rw [decide_eq_true rfl], rfl⟩
theorem step_ready (hk : o.kd = 4) (hx : Does Try.prog 15 [.pointer (some ⟨(Ts.getD i default).1, 0, none⟩), .int .i64 o.n, .bool o.b] [SchedP (Ts.getD i default).1 r s] (Ret (.int .i64 e) [SchedP (Ts.getD i default).1 r' s'])) (hy : Does Try.prog 34 [.pointer (some ⟨(Ts.getD i default).2, 0, none⟩), .int .i64 o.n, .bool o.b] [RefP (Ts.getD i default).2 r s] (Ret (.int .i64 e) [RefP (Ts.getD i default).2 r' s'])) : Does Try.prog 19 [.pointer (some ⟨wb, 0, none⟩), spV o] [WL wb la Ts.length lc v2 v3 v4 v5, TH la lc Ts, SchedP (Ts.getD i default).1 r s, RefP (Ts.getD i default).2 r s]
    (Ret (.bool true) [WL wb la Ts.length lc v2 v3 v4 v5, TH la lc Ts, SchedP (Ts.getD i default).1 r' s', RefP (Ts.getD i default).2 r' s']) := by
  have hpd := pick_r o.p Ts.length hp hT
  rw [hi'] at hpd
  (focus
    refine Xg.spec_of Go.Proofs.Try.func19 rfl Go.Proofs.Try.ntmps19 fun g F => ?_)
  (focus
    refine Xg.at_seq ?_
    refine Xg.at_region ?_
    refine Xg.ops_op (by kernel_rfl) (Xg.opx_box (v := (Value.agg #[iv o.kd, iv o.p, iv o.n, Value.bool o.b])) [iv o.kd, iv o.p, iv o.n, Value.bool o.b] (by kernel_rfl) (by kernel_rfl) fun xb1 => ?_)
    refine Xg.ops_op (by kernel_rfl) (Xg.opx_pure ((Value.bool false)) rfl (fun _ => by kernel_rfl) ?_)
    refine Xg.ops_nil ?_
    refine Xg.at_seq ?_
    refine Xg.at_seq ?_
    refine Xg.at_region ?_
    refine Xg.ops_op (by kernel_rfl) (Xg.opx_pure ((pv xb1 0)) rfl (fun _ => by kernel_rfl) ?_)
    refine Xg.ops_op (by kernel_rfl) (Xg.opx_load (b := xb1) (off := ((0 : Nat))) 0 (iv o.kd) rfl (by kernel_rfl) (by kernel_rfl) (by kernel_rfl) ?_)
    refine Xg.ops_op (by kernel_rfl) (Xg.opx_pure (.bool (decide ((o.kd : Int) = ((1 : Int))))) rfl (fun _ => by kernel_rfl) ?_)
    refine Xg.ops_nil ?_
    refine Xg.at_false (t := decide ((o.kd = (1 : Int)))) (by kernel_rfl) (decide_eq_false (by omega)) ?_
    refine Xg.at_skip ?_
    refine Xg.at_seq ?_
    refine Xg.at_seq ?_
    refine Xg.at_region ?_
    refine Xg.ops_op (by kernel_rfl) (Xg.opx_pure ((pv wb 0)) rfl (fun _ => by kernel_rfl) ?_)
    refine Xg.ops_op (by kernel_rfl) (Xg.opx_pure ((pv wb 0)) rfl (fun _ => by kernel_rfl) ?_)
    refine Xg.ops_op (by kernel_rfl) (Xg.opx_pure ((pv wb 0)) rfl (fun _ => by kernel_rfl) ?_)
    refine Xg.ops_op (by kernel_rfl) (Xg.opx_load (b := wb) (off := ((0 : Nat))) 1 (Value.slice la Ts.length lc) rfl (by kernel_rfl) (by kernel_rfl) (by kernel_rfl) ?_)
    refine Xg.ops_op (by kernel_rfl) (Xg.opx_pure ((iv (↑Ts.length : Int))) rfl (fun _ => by kernel_rfl) ?_)
    refine Xg.ops_op (by kernel_rfl) (Xg.opx_pure (.bool (decide ((((↑Ts.length : Int)) : Int) = ((0 : Int))))) rfl (fun _ => by kernel_rfl) ?_)
    refine Xg.ops_nil ?_
    refine Xg.at_false (t := decide (((↑Ts.length : Int) = (0 : Int)))) (by kernel_rfl) (decide_eq_false (by omega)) ?_
    refine Xg.at_skip ?_
    refine Xg.at_seq ?_
    refine Xg.at_draw [11, 14, 15] [(3, [0, 1, 2, 3, 4, 5, 6, 7, 8, 9, 10, 11, 14], Xg.CellIs (wb) (((0 : Nat))) ((Value.slice la Ts.length lc))), (5, [0, 1, 2, 3, 4, 5, 6, 7, 8, 9, 10, 14], Xg.CellIs (xb1) (((1 : Nat))) ((iv o.p))), (9, [0, 1, 2, 3, 4, 5, 6, 7, 8, 9, 14], Xg.CellIs (wb) (((0 : Nat))) ((Value.slice la Ts.length lc))), (12, [0, 1, 2, 3, 4, 5, 6, 7, 8, 9, 10, 11, 12, 14], (RdIs (2 : Nat) (Value.slice la Ts.length lc) Ts.length (recs thK Ts))), (13, [0, 1, 2, 3, 4, 5, 6, 7, 8, 9, 10, 11, 12, 13, 14], (RdIs (2 : Nat) (Value.slice la Ts.length lc) Ts.length (recs thK Ts)))] (by kernel_rfl) ?_
    refine Xg.any_pure ((pv wb 0)) 0 (by kernel_rfl) rfl (by kernel_rfl) (by kernel_rfl) (by kernel_rfl) (by kernel_rfl) rfl (fun _ => by kernel_rfl) ?_
    refine Xg.any_pure ((pv wb 0)) 1 (by kernel_rfl) rfl (by kernel_rfl) (by kernel_rfl) (by kernel_rfl) (by kernel_rfl) rfl (fun _ => by kernel_rfl) ?_
    refine Xg.any_pure ((pv wb 0)) 2 (by kernel_rfl) rfl (by kernel_rfl) (by kernel_rfl) (by kernel_rfl) (by kernel_rfl) rfl (fun _ => by kernel_rfl) ?_
    refine Xg.any_reads (Value.slice la Ts.length lc) 3 0 (by kernel_rfl) rfl (by kernel_rfl) (by kernel_rfl) (by kernel_rfl) (by kernel_rfl) rfl rfl (by kernel_rfl) (Xg.cell_now (b := wb) (off := ((0 : Nat))) 1 rfl (by kernel_rfl)) (fun _ h => Xg.run_load (by kernel_rfl) (by kernel_rfl) h) ?_
    refine Xg.any_pure ((pv xb1 1)) 4 (by kernel_rfl) rfl (by kernel_rfl) (by kernel_rfl) (by kernel_rfl) (by kernel_rfl) rfl (fun _ => by kernel_rfl) ?_
    refine Xg.any_reads (iv o.p) 5 1 (by kernel_rfl) rfl (by kernel_rfl) (by kernel_rfl) (by kernel_rfl) (by kernel_rfl) rfl rfl (by kernel_rfl) (Xg.cell_now (b := xb1) (off := ((1 : Nat))) 0 rfl (by kernel_rfl)) (fun _ h => Xg.run_load (by kernel_rfl) (by kernel_rfl) h) ?_
    refine Xg.any_pure ((pv wb 0)) 6 (by kernel_rfl) rfl (by kernel_rfl) (by kernel_rfl) (by kernel_rfl) (by kernel_rfl) rfl (fun _ => by kernel_rfl) ?_
    refine Xg.any_pure ((pv wb 0)) 7 (by kernel_rfl) rfl (by kernel_rfl) (by kernel_rfl) (by kernel_rfl) (by kernel_rfl) rfl (fun _ => by kernel_rfl) ?_
    refine Xg.any_pure ((pv wb 0)) 8 (by kernel_rfl) rfl (by kernel_rfl) (by kernel_rfl) (by kernel_rfl) (by kernel_rfl) rfl (fun _ => by kernel_rfl) ?_
    refine Xg.any_reads (Value.slice la Ts.length lc) 9 2 (by kernel_rfl) rfl (by kernel_rfl) (by kernel_rfl) (by kernel_rfl) (by kernel_rfl) rfl rfl (by kernel_rfl) (Xg.cell_now (b := wb) (off := ((0 : Nat))) 1 rfl (by kernel_rfl)) (fun _ h => Xg.run_load (by kernel_rfl) (by kernel_rfl) h) ?_
    refine Xg.any_pure ((iv (↑Ts.length : Int))) 10 (by kernel_rfl) rfl (by kernel_rfl) (by kernel_rfl) (by kernel_rfl) (by kernel_rfl) rfl (fun _ => by kernel_rfl) ?_
    refine Xg.any_each [11, 14] (by kernel_rfl) rfl ⟨?_, ?_, trivial⟩
    refine Xg.comes_act rfl (by kernel_rfl) (by kernel_rfl) (Xg.opx_call1' [] [row xb1 (53 : Nat) [iv o.kd, iv o.p, iv o.n, Value.bool o.b], WL wb la Ts.length lc v2 v3 v4 v5, TH la lc Ts, SchedP (Ts.getD i default).fst r s, RefP (Ts.getD i default).snd r s] (fun _ => by kernel_rfl) (@hpd ) (by kernel_rfl) (by kernel_rfl) (by kernel_rfl) ?_)
    refine Xg.acts (Xg.owes_cell 1 rfl (by kernel_rfl) (Xg.owes_skip (by kernel_rfl) (Xg.owes_skip (by kernel_rfl) (Xg.owes_rd 2 (Xg.reads_own (E := ((74 : Nat))) (sz := ((2 : Nat))) (n := Ts.length) (c := lc) (a := la) (vs := (recs thK Ts))) (by kernel_rfl) (Xg.owes_rd 2 (Xg.reads_own (E := ((74 : Nat))) (sz := ((2 : Nat))) (n := Ts.length) (c := lc) (a := la) (vs := (recs thK Ts))) (by kernel_rfl) Xg.owes_nil))))) ?_
    rotate_left
    refine Xg.comes_act rfl (by kernel_rfl) (by kernel_rfl) (Xg.opx_new 2 [Value.pointer none, Value.pointer none] (by kernel_rfl) (by kernel_rfl) fun xb2 => ?_)
    refine Xg.acts (Xg.owes_cell 2 rfl (by kernel_rfl) (Xg.owes_cell 1 rfl (by kernel_rfl) (Xg.owes_cell 2 rfl (by kernel_rfl) (Xg.owes_rd 3 (Xg.reads_own (E := ((74 : Nat))) (sz := ((2 : Nat))) (n := Ts.length) (c := lc) (a := la) (vs := (recs thK Ts))) (by kernel_rfl) (Xg.owes_rd 3 (Xg.reads_own (E := ((74 : Nat))) (sz := ((2 : Nat))) (n := Ts.length) (c := lc) (a := la) (vs := (recs thK Ts))) (by kernel_rfl) Xg.owes_nil))))) ?_
    rotate_left
    refine Xg.any_reads (.pointer (some (Addr.mk (Xg.blk la) (offA la + i * (2 : Nat)) none))) 12 3 (by kernel_rfl) rfl (by kernel_rfl) (by kernel_rfl) (by kernel_rfl) (by kernel_rfl) rfl rfl (by kernel_rfl) (Xg.rd_now 2 (Xg.reads_own (E := ((74 : Nat))) (sz := ((2 : Nat))) (n := Ts.length) (c := lc) (a := la) (vs := (recs thK Ts))) (by kernel_rfl)) (Xg.run_ix_rd (elem := 74) (kd := .i64) (e := ((↑i : Int))) 2 i (offA la + i * (2 : Nat)) (by kernel_rfl) (by kernel_rfl) (by kernel_rfl) (by kernel_rfl) rfl (by omega) (by rw [Xg.recs_len (wd := 2) (fun _ => rfl)]; omega) (by omega)) ?_
    refine Xg.any_reads (.agg (List.toArray [Value.pointer (some (Addr.mk (Ts.getD i default).fst (0 : Nat) none)), Value.pointer (some (Addr.mk (Ts.getD i default).snd (0 : Nat) none))])) 13 4 (by kernel_rfl) rfl (by kernel_rfl) (by kernel_rfl) (by kernel_rfl) (by kernel_rfl) rfl rfl (by kernel_rfl) (Xg.rd_now 2 (Xg.reads_own (E := ((74 : Nat))) (sz := ((2 : Nat))) (n := Ts.length) (c := lc) (a := la) (vs := (recs thK Ts))) (by kernel_rfl)) (Xg.run_loadn_rd (off0 := (offA la + i * (2 : Nat))) 2 (i * (2 : Nat)) [Value.pointer (some (Addr.mk (Ts.getD i default).fst (0 : Nat) none)), Value.pointer (some (Addr.mk (Ts.getD i default).snd (0 : Nat) none))] (by kernel_rfl) (by kernel_rfl) (by omega) rfl (Xg.recs_at' (wd := 2) (fun _ => rfl) default i (by omega) (by omega) (by kernel_rfl)) (by kernel_rfl)) ?_
    refine Xg.any_each [14] (by kernel_rfl) rfl ⟨?_, trivial⟩
    refine Xg.comes_act rfl (by kernel_rfl) (by kernel_rfl) (Xg.opx_new 2 [Value.pointer none, Value.pointer none] (by kernel_rfl) (by kernel_rfl) fun xb2 => ?_)
    refine Xg.acts (Xg.owes_cell 2 rfl (by kernel_rfl) (Xg.owes_cell 1 rfl (by kernel_rfl) (Xg.owes_cell 2 rfl (by kernel_rfl) (Xg.owes_rd 3 (Xg.reads_own (E := ((74 : Nat))) (sz := ((2 : Nat))) (n := Ts.length) (c := lc) (a := la) (vs := (recs thK Ts))) (by kernel_rfl) (Xg.owes_rd 3 (Xg.reads_own (E := ((74 : Nat))) (sz := ((2 : Nat))) (n := Ts.length) (c := lc) (a := la) (vs := (recs thK Ts))) (by kernel_rfl) Xg.owes_nil))))) ?_
    refine Xg.any_each [15] (by kernel_rfl) rfl ⟨?_, trivial⟩
    refine Xg.comes_act rfl (by kernel_rfl) (by kernel_rfl) (Xg.opx_storen 2 (off := 0) 0 [Value.pointer (some (Addr.mk (Ts.getD i default).fst (0 : Nat) none)), Value.pointer (some (Addr.mk (Ts.getD i default).snd (0 : Nat) none))] (by kernel_rfl) rfl (by kernel_rfl) (by kernel_rfl) rfl (by kernel_rfl) (Nat.le_of_ble_eq_true (by kernel_rfl)) ?_)
    refine Xg.acts (Xg.owes_skip (by kernel_rfl) (Xg.owes_skip (by kernel_rfl) (Xg.owes_skip (by kernel_rfl) (Xg.owes_skip (by kernel_rfl) (Xg.owes_skip (by kernel_rfl) Xg.owes_nil))))) ?_
    refine Xg.any_nil (by kernel_rfl) ?_
    refine Xg.at_seq ?_
    refine Xg.at_seq ?_
    refine Xg.at_region ?_
    refine Xg.ops_op (by kernel_rfl) (Xg.opx_pure ((pv xb1 0)) rfl (fun _ => by kernel_rfl) ?_)
    refine Xg.ops_op (by kernel_rfl) (Xg.opx_load (b := xb1) (off := ((0 : Nat))) 1 (iv o.kd) rfl (by kernel_rfl) (by kernel_rfl) (by kernel_rfl) ?_)
    refine Xg.ops_nil ?_
    refine Xg.at_block ?_
    refine Xg.at_seq ?_
    refine Xg.at_region ?_
    refine Xg.ops_op (by kernel_rfl) (Xg.opx_pure (.bool (decide ((o.kd : Int) = ((2 : Int))))) rfl (fun _ => by kernel_rfl) ?_)
    refine Xg.ops_op (by kernel_rfl) (Xg.opx_pure ((Value.bool (decide (o.kd = (2 : Int))))) rfl (fun _ => by kernel_rfl) ?_)
    refine Xg.ops_nil ?_
    refine Xg.at_false (t := decide ((o.kd = (2 : Int)))) (by kernel_rfl) (decide_eq_false (by omega)) ?_
    refine Xg.at_seq ?_
    refine Xg.at_region ?_
    refine Xg.ops_op (by kernel_rfl) (Xg.opx_pure (.bool (decide ((o.kd : Int) = ((3 : Int))))) rfl (fun _ => by kernel_rfl) ?_)
    refine Xg.ops_op (by kernel_rfl) (Xg.opx_pure ((Value.bool (decide (o.kd = (3 : Int))))) rfl (fun _ => by kernel_rfl) ?_)
    refine Xg.ops_nil ?_
    refine Xg.at_false (t := decide ((o.kd = (3 : Int)))) (by kernel_rfl) (decide_eq_false (by omega)) ?_
    refine Xg.at_seq ?_
    refine Xg.at_region ?_
    refine Xg.ops_op (by kernel_rfl) (Xg.opx_pure (.bool (decide ((o.kd : Int) = ((4 : Int))))) rfl (fun _ => by kernel_rfl) ?_)
    refine Xg.ops_op (by kernel_rfl) (Xg.opx_pure ((Value.bool (decide (o.kd = (4 : Int))))) rfl (fun _ => by kernel_rfl) ?_)
    refine Xg.ops_nil ?_
    refine Xg.at_true (t := decide ((o.kd = (4 : Int)))) (by kernel_rfl) (decide_eq_true (by omega)) ?_
    refine Xg.at_seq ?_
    refine Xg.at_region ?_
    refine Xg.ops_op (by kernel_rfl) (Xg.opx_pure ((pv xb2 0)) rfl (fun _ => by kernel_rfl) ?_)
    refine Xg.ops_op (by kernel_rfl) (Xg.opx_load (b := xb2) (off := ((0 : Nat))) 0 (Value.pointer (some (Addr.mk (Ts.getD i default).fst (0 : Nat) none))) rfl (by kernel_rfl) (by kernel_rfl) (by kernel_rfl) ?_)
    refine Xg.ops_op (by kernel_rfl) (Xg.opx_pure ((pv xb1 2)) rfl (fun _ => by kernel_rfl) ?_)
    refine Xg.ops_op (by kernel_rfl) (Xg.opx_load (b := xb1) (off := ((2 : Nat))) 1 (iv o.n) rfl (by kernel_rfl) (by kernel_rfl) (by kernel_rfl) ?_)
    refine Xg.ops_op (by kernel_rfl) (Xg.opx_pure ((pv xb1 3)) rfl (fun _ => by kernel_rfl) ?_)
    refine Xg.ops_op (by kernel_rfl) (Xg.opx_load (b := xb1) (off := ((3 : Nat))) 1 (Value.bool o.b) rfl (by kernel_rfl) (by kernel_rfl) (by kernel_rfl) ?_)
    refine Xg.ops_op (by kernel_rfl) (Xg.opx_call1' [4] [SchedP (Ts.getD i default).fst r' s', row xb2 (74 : Nat) [Value.pointer (some (Addr.mk (Ts.getD i default).fst (0 : Nat) none)), Value.pointer (some (Addr.mk (Ts.getD i default).snd (0 : Nat) none))], row xb1 (53 : Nat) [iv o.kd, iv o.p, iv o.n, Value.bool o.b], WL wb la Ts.length lc v2 v3 v4 v5, TH la lc Ts, RefP (Ts.getD i default).snd r s] (fun _ => by kernel_rfl) (@hx ) (by kernel_rfl) (by kernel_rfl) (by kernel_rfl) ?_)
    refine Xg.ops_op (by kernel_rfl) (Xg.opx_pure ((iv e)) rfl (fun _ => by kernel_rfl) ?_)
    refine Xg.ops_nil ?_
    refine Xg.at_seq ?_
    refine Xg.at_region ?_
    refine Xg.ops_op (by kernel_rfl) (Xg.opx_pure ((pv xb2 1)) rfl (fun _ => by kernel_rfl) ?_)
    refine Xg.ops_op (by kernel_rfl) (Xg.opx_load (b := xb2) (off := ((1 : Nat))) 1 (Value.pointer (some (Addr.mk (Ts.getD i default).snd (0 : Nat) none))) rfl (by kernel_rfl) (by kernel_rfl) (by kernel_rfl) ?_)
    refine Xg.ops_op (by kernel_rfl) (Xg.opx_pure ((pv xb1 2)) rfl (fun _ => by kernel_rfl) ?_)
    refine Xg.ops_op (by kernel_rfl) (Xg.opx_load (b := xb1) (off := ((2 : Nat))) 2 (iv o.n) rfl (by kernel_rfl) (by kernel_rfl) (by kernel_rfl) ?_)
    refine Xg.ops_op (by kernel_rfl) (Xg.opx_pure ((pv xb1 3)) rfl (fun _ => by kernel_rfl) ?_)
    refine Xg.ops_op (by kernel_rfl) (Xg.opx_load (b := xb1) (off := ((3 : Nat))) 2 (Value.bool o.b) rfl (by kernel_rfl) (by kernel_rfl) (by kernel_rfl) ?_)
    refine Xg.ops_op (by kernel_rfl) (Xg.opx_call1' [5] [RefP (Ts.getD i default).snd r' s', SchedP (Ts.getD i default).fst r' s', row xb2 (74 : Nat) [Value.pointer (some (Addr.mk (Ts.getD i default).fst (0 : Nat) none)), Value.pointer (some (Addr.mk (Ts.getD i default).snd (0 : Nat) none))], row xb1 (53 : Nat) [iv o.kd, iv o.p, iv o.n, Value.bool o.b], WL wb la Ts.length lc v2 v3 v4 v5, TH la lc Ts] (fun _ => by kernel_rfl) (@hy ) (by kernel_rfl) (by kernel_rfl) (by kernel_rfl) ?_)
    refine Xg.ops_op (by kernel_rfl) (Xg.opx_pure ((iv e)) rfl (fun _ => by kernel_rfl) ?_)
    refine Xg.ops_nil ?_
    refine Xg.at_seq ?_
    refine Xg.at_region ?_
    refine Xg.ops_op (by kernel_rfl) (Xg.opx_pure ((iv e)) rfl (fun _ => by kernel_rfl) ?_)
    refine Xg.ops_op (by kernel_rfl) (Xg.opx_call1' [] [RefP (Ts.getD i default).snd r' s', SchedP (Ts.getD i default).fst r' s', row xb2 (74 : Nat) [Value.pointer (some (Addr.mk (Ts.getD i default).fst (0 : Nat) none)), Value.pointer (some (Addr.mk (Ts.getD i default).snd (0 : Nat) none))], row xb1 (53 : Nat) [iv o.kd, iv o.p, iv o.n, Value.bool o.b], WL wb la Ts.length lc v2 v3 v4 v5, TH la lc Ts] (fun _ => by kernel_rfl) (@Go.Proofs.Ytijjficnhpokdaa.num_d (e)) (by kernel_rfl) (by kernel_rfl) (by kernel_rfl) ?_)
    refine Xg.ops_op (by kernel_rfl) (Xg.opx_pure ((iv e)) rfl (fun _ => by kernel_rfl) ?_)
    refine Xg.ops_op (by kernel_rfl) (Xg.opx_call1' [] [RefP (Ts.getD i default).snd r' s', SchedP (Ts.getD i default).fst r' s', row xb2 (74 : Nat) [Value.pointer (some (Addr.mk (Ts.getD i default).fst (0 : Nat) none)), Value.pointer (some (Addr.mk (Ts.getD i default).snd (0 : Nat) none))], row xb1 (53 : Nat) [iv o.kd, iv o.p, iv o.n, Value.bool o.b], WL wb la Ts.length lc v2 v3 v4 v5, TH la lc Ts] (fun _ => by kernel_rfl) (@Go.Proofs.Ytijjficnhpokdaa.num_d (e)) (by kernel_rfl) (by kernel_rfl) (by kernel_rfl) ?_)
    refine Xg.ops_op (by kernel_rfl) (Xg.opx_pure (.bool (decide ((e : Int) = e))) rfl (fun _ => by kernel_rfl) ?_)
    refine Xg.ops_op (by kernel_rfl) (Xg.opx_pure ((Value.bool (decide (e = e)))) rfl (fun _ => by kernel_rfl) ?_)
    refine Xg.ops_nil ?_
    refine Xg.at_ret_ps (v := (Value.bool (decide (e = e)))) [4, 5, 1, 0] [WL wb la Ts.length lc v2 v3 v4 v5, TH la lc Ts, SchedP (Ts.getD i default).fst r' s', RefP (Ts.getD i default).snd r' s'] Go.Proofs.Try.func19 (fun _ => by kernel_rfl) (by kernel_rfl) (by kernel_rfl) ?_
    rotate_left
    refine Xg.any_each [11] (by kernel_rfl) rfl ⟨?_, trivial⟩
    refine Xg.comes_act rfl (by kernel_rfl) (by kernel_rfl) (Xg.opx_call1' [] [row xb2 (74 : Nat) [Value.pointer none, Value.pointer none], row xb1 (53 : Nat) [iv o.kd, iv o.p, iv o.n, Value.bool o.b], WL wb la Ts.length lc v2 v3 v4 v5, TH la lc Ts, SchedP (Ts.getD i default).fst r s, RefP (Ts.getD i default).snd r s] (fun _ => by kernel_rfl) (@hpd ) (by kernel_rfl) (by kernel_rfl) (by kernel_rfl) ?_)
    refine Xg.acts (Xg.owes_cell 2 rfl (by kernel_rfl) (Xg.owes_skip (by kernel_rfl) (Xg.owes_skip (by kernel_rfl) (Xg.owes_rd 3 (Xg.reads_own (E := ((74 : Nat))) (sz := ((2 : Nat))) (n := Ts.length) (c := lc) (a := la) (vs := (recs thK Ts))) (by kernel_rfl) (Xg.owes_rd 3 (Xg.reads_own (E := ((74 : Nat))) (sz := ((2 : Nat))) (n := Ts.length) (c := lc) (a := la) (vs := (recs thK Ts))) (by kernel_rfl) Xg.owes_nil))))) ?_
    refine Xg.any_reads (.pointer (some (Addr.mk (Xg.blk la) (offA la + i * (2 : Nat)) none))) 12 3 (by kernel_rfl) rfl (by kernel_rfl) (by kernel_rfl) (by kernel_rfl) (by kernel_rfl) rfl rfl (by kernel_rfl) (Xg.rd_now 3 (Xg.reads_own (E := ((74 : Nat))) (sz := ((2 : Nat))) (n := Ts.length) (c := lc) (a := la) (vs := (recs thK Ts))) (by kernel_rfl)) (Xg.run_ix_rd (elem := 74) (kd := .i64) (e := ((↑i : Int))) 2 i (offA la + i * (2 : Nat)) (by kernel_rfl) (by kernel_rfl) (by kernel_rfl) (by kernel_rfl) rfl (by omega) (by rw [Xg.recs_len (wd := 2) (fun _ => rfl)]; omega) (by omega)) ?_
    refine Xg.any_reads (.agg (List.toArray [Value.pointer (some (Addr.mk (Ts.getD i default).fst (0 : Nat) none)), Value.pointer (some (Addr.mk (Ts.getD i default).snd (0 : Nat) none))])) 13 4 (by kernel_rfl) rfl (by kernel_rfl) (by kernel_rfl) (by kernel_rfl) (by kernel_rfl) rfl rfl (by kernel_rfl) (Xg.rd_now 3 (Xg.reads_own (E := ((74 : Nat))) (sz := ((2 : Nat))) (n := Ts.length) (c := lc) (a := la) (vs := (recs thK Ts))) (by kernel_rfl)) (Xg.run_loadn_rd (off0 := (offA la + i * (2 : Nat))) 2 (i * (2 : Nat)) [Value.pointer (some (Addr.mk (Ts.getD i default).fst (0 : Nat) none)), Value.pointer (some (Addr.mk (Ts.getD i default).snd (0 : Nat) none))] (by kernel_rfl) (by kernel_rfl) (by omega) rfl (Xg.recs_at' (wd := 2) (fun _ => rfl) default i (by omega) (by omega) (by kernel_rfl)) (by kernel_rfl)) ?_
    refine Xg.any_each [15] (by kernel_rfl) rfl ⟨?_, trivial⟩
    refine Xg.comes_act rfl (by kernel_rfl) (by kernel_rfl) (Xg.opx_storen 2 (off := 0) 0 [Value.pointer (some (Addr.mk (Ts.getD i default).fst (0 : Nat) none)), Value.pointer (some (Addr.mk (Ts.getD i default).snd (0 : Nat) none))] (by kernel_rfl) rfl (by kernel_rfl) (by kernel_rfl) rfl (by kernel_rfl) (Nat.le_of_ble_eq_true (by kernel_rfl)) ?_)
    refine Xg.acts (Xg.owes_skip (by kernel_rfl) (Xg.owes_skip (by kernel_rfl) (Xg.owes_skip (by kernel_rfl) (Xg.owes_skip (by kernel_rfl) (Xg.owes_skip (by kernel_rfl) Xg.owes_nil))))) ?_
    refine Xg.any_nil (by kernel_rfl) ?_
    refine Xg.at_seq ?_
    refine Xg.at_seq ?_
    refine Xg.at_region ?_
    refine Xg.ops_op (by kernel_rfl) (Xg.opx_pure ((pv xb1 0)) rfl (fun _ => by kernel_rfl) ?_)
    refine Xg.ops_op (by kernel_rfl) (Xg.opx_load (b := xb1) (off := ((0 : Nat))) 1 (iv o.kd) rfl (by kernel_rfl) (by kernel_rfl) (by kernel_rfl) ?_)
    refine Xg.ops_nil ?_
    refine Xg.at_block ?_
    refine Xg.at_seq ?_
    refine Xg.at_region ?_
    refine Xg.ops_op (by kernel_rfl) (Xg.opx_pure (.bool (decide ((o.kd : Int) = ((2 : Int))))) rfl (fun _ => by kernel_rfl) ?_)
    refine Xg.ops_op (by kernel_rfl) (Xg.opx_pure ((Value.bool (decide (o.kd = (2 : Int))))) rfl (fun _ => by kernel_rfl) ?_)
    refine Xg.ops_nil ?_
    refine Xg.at_false (t := decide ((o.kd = (2 : Int)))) (by kernel_rfl) (decide_eq_false (by omega)) ?_
    refine Xg.at_seq ?_
    refine Xg.at_region ?_
    refine Xg.ops_op (by kernel_rfl) (Xg.opx_pure (.bool (decide ((o.kd : Int) = ((3 : Int))))) rfl (fun _ => by kernel_rfl) ?_)
    refine Xg.ops_op (by kernel_rfl) (Xg.opx_pure ((Value.bool (decide (o.kd = (3 : Int))))) rfl (fun _ => by kernel_rfl) ?_)
    refine Xg.ops_nil ?_
    refine Xg.at_false (t := decide ((o.kd = (3 : Int)))) (by kernel_rfl) (decide_eq_false (by omega)) ?_
    refine Xg.at_seq ?_
    refine Xg.at_region ?_
    refine Xg.ops_op (by kernel_rfl) (Xg.opx_pure (.bool (decide ((o.kd : Int) = ((4 : Int))))) rfl (fun _ => by kernel_rfl) ?_)
    refine Xg.ops_op (by kernel_rfl) (Xg.opx_pure ((Value.bool (decide (o.kd = (4 : Int))))) rfl (fun _ => by kernel_rfl) ?_)
    refine Xg.ops_nil ?_
    refine Xg.at_true (t := decide ((o.kd = (4 : Int)))) (by kernel_rfl) (decide_eq_true (by omega)) ?_
    refine Xg.at_seq ?_
    refine Xg.at_region ?_
    refine Xg.ops_op (by kernel_rfl) (Xg.opx_pure ((pv xb2 0)) rfl (fun _ => by kernel_rfl) ?_)
    refine Xg.ops_op (by kernel_rfl) (Xg.opx_load (b := xb2) (off := ((0 : Nat))) 0 (Value.pointer (some (Addr.mk (Ts.getD i default).fst (0 : Nat) none))) rfl (by kernel_rfl) (by kernel_rfl) (by kernel_rfl) ?_)
    refine Xg.ops_op (by kernel_rfl) (Xg.opx_pure ((pv xb1 2)) rfl (fun _ => by kernel_rfl) ?_)
    refine Xg.ops_op (by kernel_rfl) (Xg.opx_load (b := xb1) (off := ((2 : Nat))) 1 (iv o.n) rfl (by kernel_rfl) (by kernel_rfl) (by kernel_rfl) ?_)
    refine Xg.ops_op (by kernel_rfl) (Xg.opx_pure ((pv xb1 3)) rfl (fun _ => by kernel_rfl) ?_)
    refine Xg.ops_op (by kernel_rfl) (Xg.opx_load (b := xb1) (off := ((3 : Nat))) 1 (Value.bool o.b) rfl (by kernel_rfl) (by kernel_rfl) (by kernel_rfl) ?_)
    refine Xg.ops_op (by kernel_rfl) (Xg.opx_call1' [4] [SchedP (Ts.getD i default).fst r' s', row xb2 (74 : Nat) [Value.pointer (some (Addr.mk (Ts.getD i default).fst (0 : Nat) none)), Value.pointer (some (Addr.mk (Ts.getD i default).snd (0 : Nat) none))], row xb1 (53 : Nat) [iv o.kd, iv o.p, iv o.n, Value.bool o.b], WL wb la Ts.length lc v2 v3 v4 v5, TH la lc Ts, RefP (Ts.getD i default).snd r s] (fun _ => by kernel_rfl) (@hx ) (by kernel_rfl) (by kernel_rfl) (by kernel_rfl) ?_)
    refine Xg.ops_op (by kernel_rfl) (Xg.opx_pure ((iv e)) rfl (fun _ => by kernel_rfl) ?_)
    refine Xg.ops_nil ?_
    refine Xg.at_seq ?_
    refine Xg.at_region ?_
    refine Xg.ops_op (by kernel_rfl) (Xg.opx_pure ((pv xb2 1)) rfl (fun _ => by kernel_rfl) ?_)
    refine Xg.ops_op (by kernel_rfl) (Xg.opx_load (b := xb2) (off := ((1 : Nat))) 1 (Value.pointer (some (Addr.mk (Ts.getD i default).snd (0 : Nat) none))) rfl (by kernel_rfl) (by kernel_rfl) (by kernel_rfl) ?_)
    refine Xg.ops_op (by kernel_rfl) (Xg.opx_pure ((pv xb1 2)) rfl (fun _ => by kernel_rfl) ?_)
    refine Xg.ops_op (by kernel_rfl) (Xg.opx_load (b := xb1) (off := ((2 : Nat))) 2 (iv o.n) rfl (by kernel_rfl) (by kernel_rfl) (by kernel_rfl) ?_)
    refine Xg.ops_op (by kernel_rfl) (Xg.opx_pure ((pv xb1 3)) rfl (fun _ => by kernel_rfl) ?_)
    refine Xg.ops_op (by kernel_rfl) (Xg.opx_load (b := xb1) (off := ((3 : Nat))) 2 (Value.bool o.b) rfl (by kernel_rfl) (by kernel_rfl) (by kernel_rfl) ?_)
    refine Xg.ops_op (by kernel_rfl) (Xg.opx_call1' [5] [RefP (Ts.getD i default).snd r' s', SchedP (Ts.getD i default).fst r' s', row xb2 (74 : Nat) [Value.pointer (some (Addr.mk (Ts.getD i default).fst (0 : Nat) none)), Value.pointer (some (Addr.mk (Ts.getD i default).snd (0 : Nat) none))], row xb1 (53 : Nat) [iv o.kd, iv o.p, iv o.n, Value.bool o.b], WL wb la Ts.length lc v2 v3 v4 v5, TH la lc Ts] (fun _ => by kernel_rfl) (@hy ) (by kernel_rfl) (by kernel_rfl) (by kernel_rfl) ?_)
    refine Xg.ops_op (by kernel_rfl) (Xg.opx_pure ((iv e)) rfl (fun _ => by kernel_rfl) ?_)
    refine Xg.ops_nil ?_
    refine Xg.at_seq ?_
    refine Xg.at_region ?_
    refine Xg.ops_op (by kernel_rfl) (Xg.opx_pure ((iv e)) rfl (fun _ => by kernel_rfl) ?_)
    refine Xg.ops_op (by kernel_rfl) (Xg.opx_call1' [] [RefP (Ts.getD i default).snd r' s', SchedP (Ts.getD i default).fst r' s', row xb2 (74 : Nat) [Value.pointer (some (Addr.mk (Ts.getD i default).fst (0 : Nat) none)), Value.pointer (some (Addr.mk (Ts.getD i default).snd (0 : Nat) none))], row xb1 (53 : Nat) [iv o.kd, iv o.p, iv o.n, Value.bool o.b], WL wb la Ts.length lc v2 v3 v4 v5, TH la lc Ts] (fun _ => by kernel_rfl) (@Go.Proofs.Ytijjficnhpokdaa.num_d (e)) (by kernel_rfl) (by kernel_rfl) (by kernel_rfl) ?_)
    refine Xg.ops_op (by kernel_rfl) (Xg.opx_pure ((iv e)) rfl (fun _ => by kernel_rfl) ?_)
    refine Xg.ops_op (by kernel_rfl) (Xg.opx_call1' [] [RefP (Ts.getD i default).snd r' s', SchedP (Ts.getD i default).fst r' s', row xb2 (74 : Nat) [Value.pointer (some (Addr.mk (Ts.getD i default).fst (0 : Nat) none)), Value.pointer (some (Addr.mk (Ts.getD i default).snd (0 : Nat) none))], row xb1 (53 : Nat) [iv o.kd, iv o.p, iv o.n, Value.bool o.b], WL wb la Ts.length lc v2 v3 v4 v5, TH la lc Ts] (fun _ => by kernel_rfl) (@Go.Proofs.Ytijjficnhpokdaa.num_d (e)) (by kernel_rfl) (by kernel_rfl) (by kernel_rfl) ?_)
    refine Xg.ops_op (by kernel_rfl) (Xg.opx_pure (.bool (decide ((e : Int) = e))) rfl (fun _ => by kernel_rfl) ?_)
    refine Xg.ops_op (by kernel_rfl) (Xg.opx_pure ((Value.bool (decide (e = e)))) rfl (fun _ => by kernel_rfl) ?_)
    refine Xg.ops_nil ?_
    refine Xg.at_ret_ps (v := (Value.bool (decide (e = e)))) [4, 5, 1, 0] [WL wb la Ts.length lc v2 v3 v4 v5, TH la lc Ts, SchedP (Ts.getD i default).fst r' s', RefP (Ts.getD i default).snd r' s'] Go.Proofs.Try.func19 (fun _ => by kernel_rfl) (by kernel_rfl) (by kernel_rfl) ?_)
  all_goals exact ⟨by rw [decide_eq_true rfl], rfl⟩
theorem step_begin (hk : o.kd = 5) (hx : Does Try.prog 13 [.pointer (some ⟨(Ts.getD i default).1, 0, none⟩), .int .i64 o.n] [SchedP (Ts.getD i default).1 r s] (Ret (.tuple #[.int .i64 n, .int .i64 e]) [SchedP (Ts.getD i default).1 r' s'])) (hy : Does Try.prog 35 [.pointer (some ⟨(Ts.getD i default).2, 0, none⟩), .int .i64 o.n] [RefP (Ts.getD i default).2 r s] (Ret (.tuple #[.int .i64 n, .int .i64 e]) [RefP (Ts.getD i default).2 r' s'])) : Does Try.prog 19 [.pointer (some ⟨wb, 0, none⟩), spV o] [WL wb la Ts.length lc v2 v3 v4 v5, TH la lc Ts, SchedP (Ts.getD i default).1 r s, RefP (Ts.getD i default).2 r s]
    (Ret (.bool true) [WL wb la Ts.length lc v2 v3 v4 v5, TH la lc Ts, SchedP (Ts.getD i default).1 r' s', RefP (Ts.getD i default).2 r' s']) := by
  have hpd := pick_r o.p Ts.length hp hT
  rw [hi'] at hpd
  (focus
    refine Xg.spec_of Go.Proofs.Try.func19 rfl Go.Proofs.Try.ntmps19 fun g F => ?_)
  (focus
    refine Xg.at_seq ?_
    refine Xg.at_region ?_
    refine Xg.ops_op (by kernel_rfl) (Xg.opx_box (v := (Value.agg #[iv o.kd, iv o.p, iv o.n, Value.bool o.b])) [iv o.kd, iv o.p, iv o.n, Value.bool o.b] (by kernel_rfl) (by kernel_rfl) fun xb1 => ?_)
    refine Xg.ops_op (by kernel_rfl) (Xg.opx_pure ((Value.bool false)) rfl (fun _ => by kernel_rfl) ?_)
    refine Xg.ops_nil ?_
    refine Xg.at_seq ?_
    refine Xg.at_seq ?_
    refine Xg.at_region ?_
    refine Xg.ops_op (by kernel_rfl) (Xg.opx_pure ((pv xb1 0)) rfl (fun _ => by kernel_rfl) ?_)
    refine Xg.ops_op (by kernel_rfl) (Xg.opx_load (b := xb1) (off := ((0 : Nat))) 0 (iv o.kd) rfl (by kernel_rfl) (by kernel_rfl) (by kernel_rfl) ?_)
    refine Xg.ops_op (by kernel_rfl) (Xg.opx_pure (.bool (decide ((o.kd : Int) = ((1 : Int))))) rfl (fun _ => by kernel_rfl) ?_)
    refine Xg.ops_nil ?_
    refine Xg.at_false (t := decide ((o.kd = (1 : Int)))) (by kernel_rfl) (decide_eq_false (by omega)) ?_
    refine Xg.at_skip ?_
    refine Xg.at_seq ?_
    refine Xg.at_seq ?_
    refine Xg.at_region ?_
    refine Xg.ops_op (by kernel_rfl) (Xg.opx_pure ((pv wb 0)) rfl (fun _ => by kernel_rfl) ?_)
    refine Xg.ops_op (by kernel_rfl) (Xg.opx_pure ((pv wb 0)) rfl (fun _ => by kernel_rfl) ?_)
    refine Xg.ops_op (by kernel_rfl) (Xg.opx_pure ((pv wb 0)) rfl (fun _ => by kernel_rfl) ?_)
    refine Xg.ops_op (by kernel_rfl) (Xg.opx_load (b := wb) (off := ((0 : Nat))) 1 (Value.slice la Ts.length lc) rfl (by kernel_rfl) (by kernel_rfl) (by kernel_rfl) ?_)
    refine Xg.ops_op (by kernel_rfl) (Xg.opx_pure ((iv (↑Ts.length : Int))) rfl (fun _ => by kernel_rfl) ?_)
    refine Xg.ops_op (by kernel_rfl) (Xg.opx_pure (.bool (decide ((((↑Ts.length : Int)) : Int) = ((0 : Int))))) rfl (fun _ => by kernel_rfl) ?_)
    refine Xg.ops_nil ?_
    refine Xg.at_false (t := decide (((↑Ts.length : Int) = (0 : Int)))) (by kernel_rfl) (decide_eq_false (by omega)) ?_
    refine Xg.at_skip ?_
    refine Xg.at_seq ?_
    refine Xg.at_draw [11, 14, 15] [(3, [0, 1, 2, 3, 4, 5, 6, 7, 8, 9, 10, 11, 14], Xg.CellIs (wb) (((0 : Nat))) ((Value.slice la Ts.length lc))), (5, [0, 1, 2, 3, 4, 5, 6, 7, 8, 9, 10, 14], Xg.CellIs (xb1) (((1 : Nat))) ((iv o.p))), (9, [0, 1, 2, 3, 4, 5, 6, 7, 8, 9, 14], Xg.CellIs (wb) (((0 : Nat))) ((Value.slice la Ts.length lc))), (12, [0, 1, 2, 3, 4, 5, 6, 7, 8, 9, 10, 11, 12, 14], (RdIs (2 : Nat) (Value.slice la Ts.length lc) Ts.length (recs thK Ts))), (13, [0, 1, 2, 3, 4, 5, 6, 7, 8, 9, 10, 11, 12, 13, 14], (RdIs (2 : Nat) (Value.slice la Ts.length lc) Ts.length (recs thK Ts)))] (by kernel_rfl) ?_
    refine Xg.any_pure ((pv wb 0)) 0 (by kernel_rfl) rfl (by kernel_rfl) (by kernel_rfl) (by kernel_rfl) (by kernel_rfl) rfl (fun _ => by kernel_rfl) ?_
    refine Xg.any_pure ((pv wb 0)) 1 (by kernel_rfl) rfl (by kernel_rfl) (by kernel_rfl) (by kernel_rfl) (by kernel_rfl) rfl (fun _ => by kernel_rfl) ?_
    refine Xg.any_pure ((pv wb 0)) 2 (by kernel_rfl) rfl (by kernel_rfl) (by kernel_rfl) (by kernel_rfl) (by kernel_rfl) rfl (fun _ => by kernel_rfl) ?_
    refine Xg.any_reads (Value.slice la Ts.length lc) 3 0 (by kernel_rfl) rfl (by kernel_rfl) (by kernel_rfl) (by kernel_rfl) (by kernel_rfl) rfl rfl (by kernel_rfl) (Xg.cell_now (b := wb) (off := ((0 : Nat))) 1 rfl (by kernel_rfl)) (fun _ h => Xg.run_load (by kernel_rfl) (by kernel_rfl) h) ?_
    refine Xg.any_pure ((pv xb1 1)) 4 (by kernel_rfl) rfl (by kernel_rfl) (by kernel_rfl) (by kernel_rfl) (by kernel_rfl) rfl (fun _ => by kernel_rfl) ?_
    refine Xg.any_reads (iv o.p) 5 1 (by kernel_rfl) rfl (by kernel_rfl) (by kernel_rfl) (by kernel_rfl) (by kernel_rfl) rfl rfl (by kernel_rfl) (Xg.cell_now (b := xb1) (off := ((1 : Nat))) 0 rfl (by kernel_rfl)) (fun _ h => Xg.run_load (by kernel_rfl) (by kernel_rfl) h) ?_
    refine Xg.any_pure ((pv wb 0)) 6 (by kernel_rfl) rfl (by kernel_rfl) (by kernel_rfl) (by kernel_rfl) (by kernel_rfl) rfl (fun _ => by kernel_rfl) ?_
    refine Xg.any_pure ((pv wb 0)) 7 (by kernel_rfl) rfl (by kernel_rfl) (by kernel_rfl) (by kernel_rfl) (by kernel_rfl) rfl (fun _ => by kernel_rfl) ?_
    refine Xg.any_pure ((pv wb 0)) 8 (by kernel_rfl) rfl (by kernel_rfl) (by kernel_rfl) (by kernel_rfl) (by kernel_rfl) rfl (fun _ => by kernel_rfl) ?_
    refine Xg.any_reads (Value.slice la Ts.length lc) 9 2 (by kernel_rfl) rfl (by kernel_rfl) (by kernel_rfl) (by kernel_rfl) (by kernel_rfl) rfl rfl (by kernel_rfl) (Xg.cell_now (b := wb) (off := ((0 : Nat))) 1 rfl (by kernel_rfl)) (fun _ h => Xg.run_load (by kernel_rfl) (by kernel_rfl) h) ?_
    refine Xg.any_pure ((iv (↑Ts.length : Int))) 10 (by kernel_rfl) rfl (by kernel_rfl) (by kernel_rfl) (by kernel_rfl) (by kernel_rfl) rfl (fun _ => by kernel_rfl) ?_
    refine Xg.any_each [11, 14] (by kernel_rfl) rfl ⟨?_, ?_, trivial⟩
    refine Xg.comes_act rfl (by kernel_rfl) (by kernel_rfl) (Xg.opx_call1' [] [row xb1 (53 : Nat) [iv o.kd, iv o.p, iv o.n, Value.bool o.b], WL wb la Ts.length lc v2 v3 v4 v5, TH la lc Ts, SchedP (Ts.getD i default).fst r s, RefP (Ts.getD i default).snd r s] (fun _ => by kernel_rfl) (@hpd ) (by kernel_rfl) (by kernel_rfl) (by kernel_rfl) ?_)
    refine Xg.acts (Xg.owes_cell 1 rfl (by kernel_rfl) (Xg.owes_skip (by kernel_rfl) (Xg.owes_skip (by kernel_rfl) (Xg.owes_rd 2 (Xg.reads_own (E := ((74 : Nat))) (sz := ((2 : Nat))) (n := Ts.length) (c := lc) (a := la) (vs := (recs thK Ts))) (by kernel_rfl) (Xg.owes_rd 2 (Xg.reads_own (E := ((74 : Nat))) (sz := ((2 : Nat))) (n := Ts.length) (c := lc) (a := la) (vs := (recs thK Ts))) (by kernel_rfl) Xg.owes_nil))))) ?_
    rotate_left
    refine Xg.comes_act rfl (by kernel_rfl) (by kernel_rfl) (Xg.opx_new 2 [Value.pointer none, Value.pointer none] (by kernel_rfl) (by kernel_rfl) fun xb2 => ?_)
    refine Xg.acts (Xg.owes_cell 2 rfl (by kernel_rfl) (Xg.owes_cell 1 rfl (by kernel_rfl) (Xg.owes_cell 2 rfl (by kernel_rfl) (Xg.owes_rd 3 (Xg.reads_own (E := ((74 : Nat))) (sz := ((2 : Nat))) (n := Ts.length) (c := lc) (a := la) (vs := (recs thK Ts))) (by kernel_rfl) (Xg.owes_rd 3 (Xg.reads_own (E := ((74 : Nat))) (sz := ((2 : Nat))) (n := Ts.length) (c := lc) (a := la) (vs := (recs thK Ts))) (by kernel_rfl) Xg.owes_nil))))) ?_
    rotate_left
    refine Xg.any_reads (.pointer (some (Addr.mk (Xg.blk la) (offA la + i * (2 : Nat)) none))) 12 3 (by kernel_rfl) rfl (by kernel_rfl) (by kernel_rfl) (by kernel_rfl) (by kernel_rfl) rfl rfl (by kernel_rfl) (Xg.rd_now 2 (Xg.reads_own (E := ((74 : Nat))) (sz := ((2 : Nat))) (n := Ts.length) (c := lc) (a := la) (vs := (recs thK Ts))) (by kernel_rfl)) (Xg.run_ix_rd (elem := 74) (kd := .i64) (e := ((↑i : Int))) 2 i (offA la + i * (2 : Nat)) (by kernel_rfl) (by kernel_rfl) (by kernel_rfl) (by kernel_rfl) rfl (by omega) (by rw [Xg.recs_len (wd := 2) (fun _ => rfl)]; omega) (by omega)) ?_
    refine Xg.any_reads (.agg (List.toArray [Value.pointer (some (Addr.mk (Ts.getD i default).fst (0 : Nat) none)), Value.pointer (some (Addr.mk (Ts.getD i default).snd (0 : Nat) none))])) 13 4 (by kernel_rfl) rfl (by kernel_rfl) (by kernel_rfl) (by kernel_rfl) (by kernel_rfl) rfl rfl (by kernel_rfl) (Xg.rd_now 2 (Xg.reads_own (E := ((74 : Nat))) (sz := ((2 : Nat))) (n := Ts.length) (c := lc) (a := la) (vs := (recs thK Ts))) (by kernel_rfl)) (Xg.run_loadn_rd (off0 := (offA la + i * (2 : Nat))) 2 (i * (2 : Nat)) [Value.pointer (some (Addr.mk (Ts.getD i default).fst (0 : Nat) none)), Value.pointer (some (Addr.mk (Ts.getD i default).snd (0 : Nat) none))] (by kernel_rfl) (by kernel_rfl) (by omega) rfl (Xg.recs_at' (wd := 2) (fun _ => rfl) default i (by omega) (by omega) (by kernel_rfl)) (by kernel_rfl)) ?_
    refine Xg.any_each [14] (by kernel_rfl) rfl ⟨?_, trivial⟩
    refine Xg.comes_act rfl (by kernel_rfl) (by kernel_rfl) (Xg.opx_new 2 [Value.pointer none, Value.pointer none] (by kernel_rfl) (by kernel_rfl) fun xb2 => ?_)
    refine Xg.acts (Xg.owes_cell 2 rfl (by kernel_rfl) (Xg.owes_cell 1 rfl (by kernel_rfl) (Xg.owes_cell 2 rfl (by kernel_rfl) (Xg.owes_rd 3 (Xg.reads_own (E := ((74 : Nat))) (sz := ((2 : Nat))) (n := Ts.length) (c := lc) (a := la) (vs := (recs thK Ts))) (by kernel_rfl) (Xg.owes_rd 3 (Xg.reads_own (E := ((74 : Nat))) (sz := ((2 : Nat))) (n := Ts.length) (c := lc) (a := la) (vs := (recs thK Ts))) (by kernel_rfl) Xg.owes_nil))))) ?_
    refine Xg.any_each [15] (by kernel_rfl) rfl ⟨?_, trivial⟩
    refine Xg.comes_act rfl (by kernel_rfl) (by kernel_rfl) (Xg.opx_storen 2 (off := 0) 0 [Value.pointer (some (Addr.mk (Ts.getD i default).fst (0 : Nat) none)), Value.pointer (some (Addr.mk (Ts.getD i default).snd (0 : Nat) none))] (by kernel_rfl) rfl (by kernel_rfl) (by kernel_rfl) rfl (by kernel_rfl) (Nat.le_of_ble_eq_true (by kernel_rfl)) ?_)
    refine Xg.acts (Xg.owes_skip (by kernel_rfl) (Xg.owes_skip (by kernel_rfl) (Xg.owes_skip (by kernel_rfl) (Xg.owes_skip (by kernel_rfl) (Xg.owes_skip (by kernel_rfl) Xg.owes_nil))))) ?_
    refine Xg.any_nil (by kernel_rfl) ?_
    refine Xg.at_seq ?_
    refine Xg.at_seq ?_
    refine Xg.at_region ?_
    refine Xg.ops_op (by kernel_rfl) (Xg.opx_pure ((pv xb1 0)) rfl (fun _ => by kernel_rfl) ?_)
    refine Xg.ops_op (by kernel_rfl) (Xg.opx_load (b := xb1) (off := ((0 : Nat))) 1 (iv o.kd) rfl (by kernel_rfl) (by kernel_rfl) (by kernel_rfl) ?_)
    refine Xg.ops_nil ?_
    refine Xg.at_block ?_
    refine Xg.at_seq ?_
    refine Xg.at_region ?_
    refine Xg.ops_op (by kernel_rfl) (Xg.opx_pure (.bool (decide ((o.kd : Int) = ((2 : Int))))) rfl (fun _ => by kernel_rfl) ?_)
    refine Xg.ops_op (by kernel_rfl) (Xg.opx_pure ((Value.bool (decide (o.kd = (2 : Int))))) rfl (fun _ => by kernel_rfl) ?_)
    refine Xg.ops_nil ?_
    refine Xg.at_false (t := decide ((o.kd = (2 : Int)))) (by kernel_rfl) (decide_eq_false (by omega)) ?_
    refine Xg.at_seq ?_
    refine Xg.at_region ?_
    refine Xg.ops_op (by kernel_rfl) (Xg.opx_pure (.bool (decide ((o.kd : Int) = ((3 : Int))))) rfl (fun _ => by kernel_rfl) ?_)
    refine Xg.ops_op (by kernel_rfl) (Xg.opx_pure ((Value.bool (decide (o.kd = (3 : Int))))) rfl (fun _ => by kernel_rfl) ?_)
    refine Xg.ops_nil ?_
    refine Xg.at_false (t := decide ((o.kd = (3 : Int)))) (by kernel_rfl) (decide_eq_false (by omega)) ?_
    refine Xg.at_seq ?_
    refine Xg.at_region ?_
    refine Xg.ops_op (by kernel_rfl) (Xg.opx_pure (.bool (decide ((o.kd : Int) = ((4 : Int))))) rfl (fun _ => by kernel_rfl) ?_)
    refine Xg.ops_op (by kernel_rfl) (Xg.opx_pure ((Value.bool (decide (o.kd = (4 : Int))))) rfl (fun _ => by kernel_rfl) ?_)
    refine Xg.ops_nil ?_
    refine Xg.at_false (t := decide ((o.kd = (4 : Int)))) (by kernel_rfl) (decide_eq_false (by omega)) ?_
    refine Xg.at_seq ?_
    refine Xg.at_region ?_
    refine Xg.ops_op (by kernel_rfl) (Xg.opx_pure (.bool (decide ((o.kd : Int) = ((5 : Int))))) rfl (fun _ => by kernel_rfl) ?_)
    refine Xg.ops_op (by kernel_rfl) (Xg.opx_pure ((Value.bool (decide (o.kd = (5 : Int))))) rfl (fun _ => by kernel_rfl) ?_)
    refine Xg.ops_nil ?_
    refine Xg.at_true (t := decide ((o.kd = (5 : Int)))) (by kernel_rfl) (decide_eq_true (by omega)) ?_
    refine Xg.at_seq ?_
    refine Xg.at_region ?_
    refine Xg.ops_op (by kernel_rfl) (Xg.opx_pure ((pv xb2 0)) rfl (fun _ => by kernel_rfl) ?_)
    refine Xg.ops_op (by kernel_rfl) (Xg.opx_load (b := xb2) (off := ((0 : Nat))) 0 (Value.pointer (some (Addr.mk (Ts.getD i default).fst (0 : Nat) none))) rfl (by kernel_rfl) (by kernel_rfl) (by kernel_rfl) ?_)
    refine Xg.ops_op (by kernel_rfl) (Xg.opx_pure ((pv xb1 2)) rfl (fun _ => by kernel_rfl) ?_)
    refine Xg.ops_op (by kernel_rfl) (Xg.opx_load (b := xb1) (off := ((2 : Nat))) 1 (iv o.n) rfl (by kernel_rfl) (by kernel_rfl) (by kernel_rfl) ?_)
    refine Xg.ops_op (by kernel_rfl) (Xg.opx_call1' [4] [SchedP (Ts.getD i default).fst r' s', row xb2 (74 : Nat) [Value.pointer (some (Addr.mk (Ts.getD i default).fst (0 : Nat) none)), Value.pointer (some (Addr.mk (Ts.getD i default).snd (0 : Nat) none))], row xb1 (53 : Nat) [iv o.kd, iv o.p, iv o.n, Value.bool o.b], WL wb la Ts.length lc v2 v3 v4 v5, TH la lc Ts, RefP (Ts.getD i default).snd r s] (fun _ => by kernel_rfl) (@hx ) (by kernel_rfl) (by kernel_rfl) (by kernel_rfl) ?_)
    refine Xg.ops_op (by kernel_rfl) (Xg.opx_pure ((Value.tuple #[iv n, iv e])) rfl (fun _ => by kernel_rfl) ?_)
    refine Xg.ops_op (by kernel_rfl) (Xg.opx_pure ((iv n)) rfl (fun _ => by kernel_rfl) ?_)
    refine Xg.ops_op (by kernel_rfl) (Xg.opx_pure ((iv e)) rfl (fun _ => by kernel_rfl) ?_)
    refine Xg.ops_op (by kernel_rfl) (Xg.opx_pure ((iv n)) rfl (fun _ => by kernel_rfl) ?_)
    refine Xg.ops_op (by kernel_rfl) (Xg.opx_pure ((iv e)) rfl (fun _ => by kernel_rfl) ?_)
    refine Xg.ops_nil ?_
    refine Xg.at_seq ?_
    refine Xg.at_region ?_
    refine Xg.ops_op (by kernel_rfl) (Xg.opx_pure ((pv xb2 1)) rfl (fun _ => by kernel_rfl) ?_)
    refine Xg.ops_op (by kernel_rfl) (Xg.opx_load (b := xb2) (off := ((1 : Nat))) 1 (Value.pointer (some (Addr.mk (Ts.getD i default).snd (0 : Nat) none))) rfl (by kernel_rfl) (by kernel_rfl) (by kernel_rfl) ?_)
    refine Xg.ops_op (by kernel_rfl) (Xg.opx_pure ((pv xb1 2)) rfl (fun _ => by kernel_rfl) ?_)
    refine Xg.ops_op (by kernel_rfl) (Xg.opx_load (b := xb1) (off := ((2 : Nat))) 2 (iv o.n) rfl (by kernel_rfl) (by kernel_rfl) (by kernel_rfl) ?_)
    refine Xg.ops_op (by kernel_rfl) (Xg.opx_call1' [5] [RefP (Ts.getD i default).snd r' s', SchedP (Ts.getD i default).fst r' s', row xb2 (74 : Nat) [Value.pointer (some (Addr.mk (Ts.getD i default).fst (0 : Nat) none)), Value.pointer (some (Addr.mk (Ts.getD i default).snd (0 : Nat) none))], row xb1 (53 : Nat) [iv o.kd, iv o.p, iv o.n, Value.bool o.b], WL wb la Ts.length lc v2 v3 v4 v5, TH la lc Ts] (fun _ => by kernel_rfl) (@hy ) (by kernel_rfl) (by kernel_rfl) (by kernel_rfl) ?_)
    refine Xg.ops_op (by kernel_rfl) (Xg.opx_pure ((Value.tuple #[iv n, iv e])) rfl (fun _ => by kernel_rfl) ?_)
    refine Xg.ops_op (by kernel_rfl) (Xg.opx_pure ((iv n)) rfl (fun _ => by kernel_rfl) ?_)
    refine Xg.ops_op (by kernel_rfl) (Xg.opx_pure ((iv e)) rfl (fun _ => by kernel_rfl) ?_)
    refine Xg.ops_op (by kernel_rfl) (Xg.opx_pure ((iv n)) rfl (fun _ => by kernel_rfl) ?_)
    refine Xg.ops_op (by kernel_rfl) (Xg.opx_pure ((iv e)) rfl (fun _ => by kernel_rfl) ?_)
    refine Xg.ops_nil ?_
    refine Xg.at_seq ?_
    refine Xg.at_region ?_
    refine Xg.ops_op (by kernel_rfl) (Xg.opx_pure ((iv n)) rfl (fun _ => by kernel_rfl) ?_)
    refine Xg.ops_op (by kernel_rfl) (Xg.opx_pure ((iv n)) rfl (fun _ => by kernel_rfl) ?_)
    refine Xg.ops_op (by kernel_rfl) (Xg.opx_pure (.bool (decide ((n : Int) = n))) rfl (fun _ => by kernel_rfl) ?_)
    refine Xg.ops_op (by kernel_rfl) (Xg.opx_pure ((Value.bool (decide (n = n)))) rfl (fun _ => by kernel_rfl) ?_)
    refine Xg.ops_flag (j := 168) (c := (decide (n = n))) (by kernel_rfl) (fun _ => ?_) (fun xh1 => absurd (of_decide_eq_false xh1) (by omega))
    refine Xg.ops_op (by kernel_rfl) (Xg.opx_pure ((iv e)) rfl (fun _ => by kernel_rfl) ?_)
    refine Xg.ops_op (by kernel_rfl) (Xg.opx_call1' [] [RefP (Ts.getD i default).snd r' s', SchedP (Ts.getD i default).fst r' s', row xb2 (74 : Nat) [Value.pointer (some (Addr.mk (Ts.getD i default).fst (0 : Nat) none)), Value.pointer (some (Addr.mk (Ts.getD i default).snd (0 : Nat) none))], row xb1 (53 : Nat) [iv o.kd, iv o.p, iv o.n, Value.bool o.b], WL wb la Ts.length lc v2 v3 v4 v5, TH la lc Ts] (fun _ => by kernel_rfl) (@Go.Proofs.Ytijjficnhpokdaa.num_d (e)) (by kernel_rfl) (by kernel_rfl) (by kernel_rfl) ?_)
    refine Xg.ops_op (by kernel_rfl) (Xg.opx_pure ((iv e)) rfl (fun _ => by kernel_rfl) ?_)
    refine Xg.ops_op (by kernel_rfl) (Xg.opx_call1' [] [RefP (Ts.getD i default).snd r' s', SchedP (Ts.getD i default).fst r' s', row xb2 (74 : Nat) [Value.pointer (some (Addr.mk (Ts.getD i default).fst (0 : Nat) none)), Value.pointer (some (Addr.mk (Ts.getD i default).snd (0 : Nat) none))], row xb1 (53 : Nat) [iv o.kd, iv o.p, iv o.n, Value.bool o.b], WL wb la Ts.length lc v2 v3 v4 v5, TH la lc Ts] (fun _ => by kernel_rfl) (@Go.Proofs.Ytijjficnhpokdaa.num_d (e)) (by kernel_rfl) (by kernel_rfl) (by kernel_rfl) ?_)
    refine Xg.ops_op (by kernel_rfl) (Xg.opx_pure (.bool (decide ((e : Int) = e))) rfl (fun _ => by kernel_rfl) ?_)
    refine Xg.ops_flag (j := 173) (c := (decide (e = e))) (by kernel_rfl) (fun _ => ?_) (fun xh1 => absurd (of_decide_eq_false xh1) (by omega))
    refine Xg.ops_op (by kernel_rfl) (Xg.opx_pure ((Value.bool true)) rfl (fun _ => by kernel_rfl) ?_)
    refine Xg.ops_op (by kernel_rfl) (Xg.opx_pure ((Value.bool true)) rfl (fun _ => by kernel_rfl) ?_)
    refine Xg.ops_nil ?_
    refine Xg.at_ret_ps (v := (Value.bool true)) [4, 5, 1, 0] [WL wb la Ts.length lc v2 v3 v4 v5, TH la lc Ts, SchedP (Ts.getD i default).fst r' s', RefP (Ts.getD i default).snd r' s'] Go.Proofs.Try.func19 (fun _ => by kernel_rfl) (by kernel_rfl) (by kernel_rfl) ?_
    exact ⟨by kernel_rfl, by kernel_rfl⟩
    refine Xg.any_each [11] (by kernel_rfl) rfl ⟨?_, trivial⟩
    refine Xg.comes_act rfl (by kernel_rfl) (by kernel_rfl) (Xg.opx_call1' [] [row xb2 (74 : Nat) [Value.pointer none, Value.pointer none], row xb1 (53 : Nat) [iv o.kd, iv o.p, iv o.n, Value.bool o.b], WL wb la Ts.length lc v2 v3 v4 v5, TH la lc Ts, SchedP (Ts.getD i default).fst r s, RefP (Ts.getD i default).snd r s] (fun _ => by kernel_rfl) (@hpd ) (by kernel_rfl) (by kernel_rfl) (by kernel_rfl) ?_)
    refine Xg.acts (Xg.owes_cell 2 rfl (by kernel_rfl) (Xg.owes_skip (by kernel_rfl) (Xg.owes_skip (by kernel_rfl) (Xg.owes_rd 3 (Xg.reads_own (E := ((74 : Nat))) (sz := ((2 : Nat))) (n := Ts.length) (c := lc) (a := la) (vs := (recs thK Ts))) (by kernel_rfl) (Xg.owes_rd 3 (Xg.reads_own (E := ((74 : Nat))) (sz := ((2 : Nat))) (n := Ts.length) (c := lc) (a := la) (vs := (recs thK Ts))) (by kernel_rfl) Xg.owes_nil))))) ?_
    refine Xg.any_reads (.pointer (some (Addr.mk (Xg.blk la) (offA la + i * (2 : Nat)) none))) 12 3 (by kernel_rfl) rfl (by kernel_rfl) (by kernel_rfl) (by kernel_rfl) (by kernel_rfl) rfl rfl (by kernel_rfl) (Xg.rd_now 3 (Xg.reads_own (E := ((74 : Nat))) (sz := ((2 : Nat))) (n := Ts.length) (c := lc) (a := la) (vs := (recs thK Ts))) (by kernel_rfl)) (Xg.run_ix_rd (elem := 74) (kd := .i64) (e := ((↑i : Int))) 2 i (offA la + i * (2 : Nat)) (by kernel_rfl) (by kernel_rfl) (by kernel_rfl) (by kernel_rfl) rfl (by omega) (by rw [Xg.recs_len (wd := 2) (fun _ => rfl)]; omega) (by omega)) ?_
    refine Xg.any_reads (.agg (List.toArray [Value.pointer (some (Addr.mk (Ts.getD i default).fst (0 : Nat) none)), Value.pointer (some (Addr.mk (Ts.getD i default).snd (0 : Nat) none))])) 13 4 (by kernel_rfl) rfl (by kernel_rfl) (by kernel_rfl) (by kernel_rfl) (by kernel_rfl) rfl rfl (by kernel_rfl) (Xg.rd_now 3 (Xg.reads_own (E := ((74 : Nat))) (sz := ((2 : Nat))) (n := Ts.length) (c := lc) (a := la) (vs := (recs thK Ts))) (by kernel_rfl)) (Xg.run_loadn_rd (off0 := (offA la + i * (2 : Nat))) 2 (i * (2 : Nat)) [Value.pointer (some (Addr.mk (Ts.getD i default).fst (0 : Nat) none)), Value.pointer (some (Addr.mk (Ts.getD i default).snd (0 : Nat) none))] (by kernel_rfl) (by kernel_rfl) (by omega) rfl (Xg.recs_at' (wd := 2) (fun _ => rfl) default i (by omega) (by omega) (by kernel_rfl)) (by kernel_rfl)) ?_
    refine Xg.any_each [15] (by kernel_rfl) rfl ⟨?_, trivial⟩
    refine Xg.comes_act rfl (by kernel_rfl) (by kernel_rfl) (Xg.opx_storen 2 (off := 0) 0 [Value.pointer (some (Addr.mk (Ts.getD i default).fst (0 : Nat) none)), Value.pointer (some (Addr.mk (Ts.getD i default).snd (0 : Nat) none))] (by kernel_rfl) rfl (by kernel_rfl) (by kernel_rfl) rfl (by kernel_rfl) (Nat.le_of_ble_eq_true (by kernel_rfl)) ?_)
    refine Xg.acts (Xg.owes_skip (by kernel_rfl) (Xg.owes_skip (by kernel_rfl) (Xg.owes_skip (by kernel_rfl) (Xg.owes_skip (by kernel_rfl) (Xg.owes_skip (by kernel_rfl) Xg.owes_nil))))) ?_
    refine Xg.any_nil (by kernel_rfl) ?_
    refine Xg.at_seq ?_
    refine Xg.at_seq ?_
    refine Xg.at_region ?_
    refine Xg.ops_op (by kernel_rfl) (Xg.opx_pure ((pv xb1 0)) rfl (fun _ => by kernel_rfl) ?_)
    refine Xg.ops_op (by kernel_rfl) (Xg.opx_load (b := xb1) (off := ((0 : Nat))) 1 (iv o.kd) rfl (by kernel_rfl) (by kernel_rfl) (by kernel_rfl) ?_)
    refine Xg.ops_nil ?_
    refine Xg.at_block ?_
    refine Xg.at_seq ?_
    refine Xg.at_region ?_
    refine Xg.ops_op (by kernel_rfl) (Xg.opx_pure (.bool (decide ((o.kd : Int) = ((2 : Int))))) rfl (fun _ => by kernel_rfl) ?_)
    refine Xg.ops_op (by kernel_rfl) (Xg.opx_pure ((Value.bool (decide (o.kd = (2 : Int))))) rfl (fun _ => by kernel_rfl) ?_)
    refine Xg.ops_nil ?_
    refine Xg.at_false (t := decide ((o.kd = (2 : Int)))) (by kernel_rfl) (decide_eq_false (by omega)) ?_
    refine Xg.at_seq ?_
    refine Xg.at_region ?_
    refine Xg.ops_op (by kernel_rfl) (Xg.opx_pure (.bool (decide ((o.kd : Int) = ((3 : Int))))) rfl (fun _ => by kernel_rfl) ?_)
    refine Xg.ops_op (by kernel_rfl) (Xg.opx_pure ((Value.bool (decide (o.kd = (3 : Int))))) rfl (fun _ => by kernel_rfl) ?_)
    refine Xg.ops_nil ?_
    refine Xg.at_false (t := decide ((o.kd = (3 : Int)))) (by kernel_rfl) (decide_eq_false (by omega)) ?_
    refine Xg.at_seq ?_
    refine Xg.at_region ?_
    refine Xg.ops_op (by kernel_rfl) (Xg.opx_pure (.bool (decide ((o.kd : Int) = ((4 : Int))))) rfl (fun _ => by kernel_rfl) ?_)
    refine Xg.ops_op (by kernel_rfl) (Xg.opx_pure ((Value.bool (decide (o.kd = (4 : Int))))) rfl (fun _ => by kernel_rfl) ?_)
    refine Xg.ops_nil ?_
    refine Xg.at_false (t := decide ((o.kd = (4 : Int)))) (by kernel_rfl) (decide_eq_false (by omega)) ?_
    refine Xg.at_seq ?_
    refine Xg.at_region ?_
    refine Xg.ops_op (by kernel_rfl) (Xg.opx_pure (.bool (decide ((o.kd : Int) = ((5 : Int))))) rfl (fun _ => by kernel_rfl) ?_)
    refine Xg.ops_op (by kernel_rfl) (Xg.opx_pure ((Value.bool (decide (o.kd = (5 : Int))))) rfl (fun _ => by kernel_rfl) ?_)
    refine Xg.ops_nil ?_
    refine Xg.at_true (t := decide ((o.kd = (5 : Int)))) (by kernel_rfl) (decide_eq_true (by omega)) ?_
    refine Xg.at_seq ?_
    refine Xg.at_region ?_
    refine Xg.ops_op (by kernel_rfl) (Xg.opx_pure ((pv xb2 0)) rfl (fun _ => by kernel_rfl) ?_)
    refine Xg.ops_op (by kernel_rfl) (Xg.opx_load (b := xb2) (off := ((0 : Nat))) 0 (Value.pointer (some (Addr.mk (Ts.getD i default).fst (0 : Nat) none))) rfl (by kernel_rfl) (by kernel_rfl) (by kernel_rfl) ?_)
    refine Xg.ops_op (by kernel_rfl) (Xg.opx_pure ((pv xb1 2)) rfl (fun _ => by kernel_rfl) ?_)
    refine Xg.ops_op (by kernel_rfl) (Xg.opx_load (b := xb1) (off := ((2 : Nat))) 1 (iv o.n) rfl (by kernel_rfl) (by kernel_rfl) (by kernel_rfl) ?_)
    refine Xg.ops_op (by kernel_rfl) (Xg.opx_call1' [4] [SchedP (Ts.getD i default).fst r' s', row xb2 (74 : Nat) [Value.pointer (some (Addr.mk (Ts.getD i default).fst (0 : Nat) none)), Value.pointer (some (Addr.mk (Ts.getD i default).snd (0 : Nat) none))], row xb1 (53 : Nat) [iv o.kd, iv o.p, iv o.n, Value.bool o.b], WL wb la Ts.length lc v2 v3 v4 v5, TH la lc Ts, RefP (Ts.getD i default).snd r s] (fun _ => by kernel_rfl) (@hx ) (by kernel_rfl) (by kernel_rfl) (by kernel_rfl) ?_)
    refine Xg.ops_op (by kernel_rfl) (Xg.opx_pure ((Value.tuple #[iv n, iv e])) rfl (fun _ => by kernel_rfl) ?_)
    refine Xg.ops_op (by kernel_rfl) (Xg.opx_pure ((iv n)) rfl (fun _ => by kernel_rfl) ?_)
    refine Xg.ops_op (by kernel_rfl) (Xg.opx_pure ((iv e)) rfl (fun _ => by kernel_rfl) ?_)
    refine Xg.ops_op (by kernel_rfl) (Xg.opx_pure ((iv n)) rfl (fun _ => by kernel_rfl) ?_)
    refine Xg.ops_op (by kernel_rfl) (Xg.opx_pure ((iv e)) rfl (fun _ => by kernel_rfl) ?_)
    refine Xg.ops_nil ?_
    refine Xg.at_seq ?_
    refine Xg.at_region ?_
    refine Xg.ops_op (by kernel_rfl) (Xg.opx_pure ((pv xb2 1)) rfl (fun _ => by kernel_rfl) ?_)
    refine Xg.ops_op (by kernel_rfl) (Xg.opx_load (b := xb2) (off := ((1 : Nat))) 1 (Value.pointer (some (Addr.mk (Ts.getD i default).snd (0 : Nat) none))) rfl (by kernel_rfl) (by kernel_rfl) (by kernel_rfl) ?_)
    refine Xg.ops_op (by kernel_rfl) (Xg.opx_pure ((pv xb1 2)) rfl (fun _ => by kernel_rfl) ?_)
    refine Xg.ops_op (by kernel_rfl) (Xg.opx_load (b := xb1) (off := ((2 : Nat))) 2 (iv o.n) rfl (by kernel_rfl) (by kernel_rfl) (by kernel_rfl) ?_)
    refine Xg.ops_op (by kernel_rfl) (Xg.opx_call1' [5] [RefP (Ts.getD i default).snd r' s', SchedP (Ts.getD i default).fst r' s', row xb2 (74 : Nat) [Value.pointer (some (Addr.mk (Ts.getD i default).fst (0 : Nat) none)), Value.pointer (some (Addr.mk (Ts.getD i default).snd (0 : Nat) none))], row xb1 (53 : Nat) [iv o.kd, iv o.p, iv o.n, Value.bool o.b], WL wb la Ts.length lc v2 v3 v4 v5, TH la lc Ts] (fun _ => by kernel_rfl) (@hy ) (by kernel_rfl) (by kernel_rfl) (by kernel_rfl) ?_)
    refine Xg.ops_op (by kernel_rfl) (Xg.opx_pure ((Value.tuple #[iv n, iv e])) rfl (fun _ => by kernel_rfl) ?_)
    refine Xg.ops_op (by kernel_rfl) (Xg.opx_pure ((iv n)) rfl (fun _ => by kernel_rfl) ?_)
    refine Xg.ops_op (by kernel_rfl) (Xg.opx_pure ((iv e)) rfl (fun _ => by kernel_rfl) ?_)
    refine Xg.ops_op (by kernel_rfl) (Xg.opx_pure ((iv n)) rfl (fun _ => by kernel_rfl) ?_)
    refine Xg.ops_op (by kernel_rfl) (Xg.opx_pure ((iv e)) rfl (fun _ => by kernel_rfl) ?_)
    refine Xg.ops_nil ?_
    refine Xg.at_seq ?_
    refine Xg.at_region ?_
    refine Xg.ops_op (by kernel_rfl) (Xg.opx_pure ((iv n)) rfl (fun _ => by kernel_rfl) ?_)
    refine Xg.ops_op (by kernel_rfl) (Xg.opx_pure ((iv n)) rfl (fun _ => by kernel_rfl) ?_)
    refine Xg.ops_op (by kernel_rfl) (Xg.opx_pure (.bool (decide ((n : Int) = n))) rfl (fun _ => by kernel_rfl) ?_)
    refine Xg.ops_op (by kernel_rfl) (Xg.opx_pure ((Value.bool (decide (n = n)))) rfl (fun _ => by kernel_rfl) ?_)
    refine Xg.ops_flag (j := 168) (c := (decide (n = n))) (by kernel_rfl) (fun _ => ?_) (fun xh1 => absurd (of_decide_eq_false xh1) (by omega))
    refine Xg.ops_op (by kernel_rfl) (Xg.opx_pure ((iv e)) rfl (fun _ => by kernel_rfl) ?_)
    refine Xg.ops_op (by kernel_rfl) (Xg.opx_call1' [] [RefP (Ts.getD i default).snd r' s', SchedP (Ts.getD i default).fst r' s', row xb2 (74 : Nat) [Value.pointer (some (Addr.mk (Ts.getD i default).fst (0 : Nat) none)), Value.pointer (some (Addr.mk (Ts.getD i default).snd (0 : Nat) none))], row xb1 (53 : Nat) [iv o.kd, iv o.p, iv o.n, Value.bool o.b], WL wb la Ts.length lc v2 v3 v4 v5, TH la lc Ts] (fun _ => by kernel_rfl) (@Go.Proofs.Ytijjficnhpokdaa.num_d (e)) (by kernel_rfl) (by kernel_rfl) (by kernel_rfl) ?_)
    refine Xg.ops_op (by kernel_rfl) (Xg.opx_pure ((iv e)) rfl (fun _ => by kernel_rfl) ?_)
    refine Xg.ops_op (by kernel_rfl) (Xg.opx_call1' [] [RefP (Ts.getD i default).snd r' s', SchedP (Ts.getD i default).fst r' s', row xb2 (74 : Nat) [Value.pointer (some (Addr.mk (Ts.getD i default).fst (0 : Nat) none)), Value.pointer (some (Addr.mk (Ts.getD i default).snd (0 : Nat) none))], row xb1 (53 : Nat) [iv o.kd, iv o.p, iv o.n, Value.bool o.b], WL wb la Ts.length lc v2 v3 v4 v5, TH la lc Ts] (fun _ => by kernel_rfl) (@Go.Proofs.Ytijjficnhpokdaa.num_d (e)) (by kernel_rfl) (by kernel_rfl) (by kernel_rfl) ?_)
    refine Xg.ops_op (by kernel_rfl) (Xg.opx_pure (.bool (decide ((e : Int) = e))) rfl (fun _ => by kernel_rfl) ?_)
    refine Xg.ops_flag (j := 173) (c := (decide (e = e))) (by kernel_rfl) (fun _ => ?_) (fun xh1 => absurd (of_decide_eq_false xh1) (by omega))
    refine Xg.ops_op (by kernel_rfl) (Xg.opx_pure ((Value.bool true)) rfl (fun _ => by kernel_rfl) ?_)
    refine Xg.ops_op (by kernel_rfl) (Xg.opx_pure ((Value.bool true)) rfl (fun _ => by kernel_rfl) ?_)
    refine Xg.ops_nil ?_
    refine Xg.at_ret_ps (v := (Value.bool true)) [4, 5, 1, 0] [WL wb la Ts.length lc v2 v3 v4 v5, TH la lc Ts, SchedP (Ts.getD i default).fst r' s', RefP (Ts.getD i default).snd r' s'] Go.Proofs.Try.func19 (fun _ => by kernel_rfl) (by kernel_rfl) (by kernel_rfl) ?_
    exact ⟨by kernel_rfl, by kernel_rfl⟩)
theorem step_end (hk : o.kd = 6) (hx : Does Try.prog 14 [.pointer (some ⟨(Ts.getD i default).1, 0, none⟩), .int .i64 o.n] [SchedP (Ts.getD i default).1 r s] (Ret (.tuple #[.int .i64 n, .int .i64 e]) [SchedP (Ts.getD i default).1 r' s'])) (hy : Does Try.prog 36 [.pointer (some ⟨(Ts.getD i default).2, 0, none⟩), .int .i64 o.n] [RefP (Ts.getD i default).2 r s] (Ret (.tuple #[.int .i64 n, .int .i64 e]) [RefP (Ts.getD i default).2 r' s'])) : Does Try.prog 19 [.pointer (some ⟨wb, 0, none⟩), spV o] [WL wb la Ts.length lc v2 v3 v4 v5, TH la lc Ts, SchedP (Ts.getD i default).1 r s, RefP (Ts.getD i default).2 r s]
    (Ret (.bool true) [WL wb la Ts.length lc v2 v3 v4 v5, TH la lc Ts, SchedP (Ts.getD i default).1 r' s', RefP (Ts.getD i default).2 r' s']) := by
  have hpd := pick_r o.p Ts.length hp hT
  rw [hi'] at hpd
  (focus
    refine Xg.spec_of Go.Proofs.Try.func19 rfl Go.Proofs.Try.ntmps19 fun g F => ?_)
  (focus
    refine Xg.at_seq ?_
    refine Xg.at_region ?_
    refine Xg.ops_op (by kernel_rfl) (Xg.opx_box (v := (Value.agg #[iv o.kd, iv o.p, iv o.n, Value.bool o.b])) [iv o.kd, iv o.p, iv o.n, Value.bool o.b] (by kernel_rfl) (by kernel_rfl) fun xb1 => ?_)
    refine Xg.ops_op (by kernel_rfl) (Xg.opx_pure ((Value.bool false)) rfl (fun _ => by kernel_rfl) ?_)
    refine Xg.ops_nil ?_
    refine Xg.at_seq ?_
    refine Xg.at_seq ?_
    refine Xg.at_region ?_
    refine Xg.ops_op (by kernel_rfl) (Xg.opx_pure ((pv xb1 0)) rfl (fun _ => by kernel_rfl) ?_)
    refine Xg.ops_op (by kernel_rfl) (Xg.opx_load (b := xb1) (off := ((0 : Nat))) 0 (iv o.kd) rfl (by kernel_rfl) (by kernel_rfl) (by kernel_rfl) ?_)
    refine Xg.ops_op (by kernel_rfl) (Xg.opx_pure (.bool (decide ((o.kd : Int) = ((1 : Int))))) rfl (fun _ => by kernel_rfl) ?_)
    refine Xg.ops_nil ?_
    refine Xg.at_false (t := decide ((o.kd = (1 : Int)))) (by kernel_rfl) (decide_eq_false (by omega)) ?_
    refine Xg.at_skip ?_
    refine Xg.at_seq ?_
    refine Xg.at_seq ?_
    refine Xg.at_region ?_
    refine Xg.ops_op (by kernel_rfl) (Xg.opx_pure ((pv wb 0)) rfl (fun _ => by kernel_rfl) ?_)
    refine Xg.ops_op (by kernel_rfl) (Xg.opx_pure ((pv wb 0)) rfl (fun _ => by kernel_rfl) ?_)
    refine Xg.ops_op (by kernel_rfl) (Xg.opx_pure ((pv wb 0)) rfl (fun _ => by kernel_rfl) ?_)
    refine Xg.ops_op (by kernel_rfl) (Xg.opx_load (b := wb) (off := ((0 : Nat))) 1 (Value.slice la Ts.length lc) rfl (by kernel_rfl) (by kernel_rfl) (by kernel_rfl) ?_)
    refine Xg.ops_op (by kernel_rfl) (Xg.opx_pure ((iv (↑Ts.length : Int))) rfl (fun _ => by kernel_rfl) ?_)
    refine Xg.ops_op (by kernel_rfl) (Xg.opx_pure (.bool (decide ((((↑Ts.length : Int)) : Int) = ((0 : Int))))) rfl (fun _ => by kernel_rfl) ?_)
    refine Xg.ops_nil ?_
    refine Xg.at_false (t := decide (((↑Ts.length : Int) = (0 : Int)))) (by kernel_rfl) (decide_eq_false (by omega)) ?_
    refine Xg.at_skip ?_
    refine Xg.at_seq ?_
    refine Xg.at_draw [11, 14, 15] [(3, [0, 1, 2, 3, 4, 5, 6, 7, 8, 9, 10, 11, 14], Xg.CellIs (wb) (((0 : Nat))) ((Value.slice la Ts.length lc))), (5, [0, 1, 2, 3, 4, 5, 6, 7, 8, 9, 10, 14], Xg.CellIs (xb1) (((1 : Nat))) ((iv o.p))), (9, [0, 1, 2, 3, 4, 5, 6, 7, 8, 9, 14], Xg.CellIs (wb) (((0 : Nat))) ((Value.slice la Ts.length lc))), (12, [0, 1, 2, 3, 4, 5, 6, 7, 8, 9, 10, 11, 12, 14], (RdIs (2 : Nat) (Value.slice la Ts.length lc) Ts.length (recs thK Ts))), (13, [0, 1, 2, 3, 4, 5, 6, 7, 8, 9, 10, 11, 12, 13, 14], (RdIs (2 : Nat) (Value.slice la Ts.length lc) Ts.length (recs thK Ts)))] (by kernel_rfl) ?_
    refine Xg.any_pure ((pv wb 0)) 0 (by kernel_rfl) rfl (by kernel_rfl) (by kernel_rfl) (by kernel_rfl) (by kernel_rfl) rfl (fun _ => by kernel_rfl) ?_
    refine Xg.any_pure ((pv wb 0)) 1 (by kernel_rfl) rfl (by kernel_rfl) (by kernel_rfl) (by kernel_rfl) (by kernel_rfl) rfl (fun _ => by kernel_rfl) ?_
    refine Xg.any_pure ((pv wb 0)) 2 (by kernel_rfl) rfl (by kernel_rfl) (by kernel_rfl) (by kernel_rfl) (by kernel_rfl) rfl (fun _ => by kernel_rfl) ?_
    refine Xg.any_reads (Value.slice la Ts.length lc) 3 0 (by kernel_rfl) rfl (by kernel_rfl) (by kernel_rfl) (by kernel_rfl) (by kernel_rfl) rfl rfl (by kernel_rfl) (Xg.cell_now (b := wb) (off := ((0 : Nat))) 1 rfl (by kernel_rfl)) (fun _ h => Xg.run_load (by kernel_rfl) (by kernel_rfl) h) ?_
    refine Xg.any_pure ((pv xb1 1)) 4 (by kernel_rfl) rfl (by kernel_rfl) (by kernel_rfl) (by kernel_rfl) (by kernel_rfl) rfl (fun _ => by kernel_rfl) ?_
    refine Xg.any_reads (iv o.p) 5 1 (by kernel_rfl) rfl (by kernel_rfl) (by kernel_rfl) (by kernel_rfl) (by kernel_rfl) rfl rfl (by kernel_rfl) (Xg.cell_now (b := xb1) (off := ((1 : Nat))) 0 rfl (by kernel_rfl)) (fun _ h => Xg.run_load (by kernel_rfl) (by kernel_rfl) h) ?_
    refine Xg.any_pure ((pv wb 0)) 6 (by kernel_rfl) rfl (by kernel_rfl) (by kernel_rfl) (by kernel_rfl) (by kernel_rfl) rfl (fun _ => by kernel_rfl) ?_
    refine Xg.any_pure ((pv wb 0)) 7 (by kernel_rfl) rfl (by kernel_rfl) (by kernel_rfl) (by kernel_rfl) (by kernel_rfl) rfl (fun _ => by kernel_rfl) ?_
    refine Xg.any_pure ((pv wb 0)) 8 (by kernel_rfl) rfl (by kernel_rfl) (by kernel_rfl) (by kernel_rfl) (by kernel_rfl) rfl (fun _ => by kernel_rfl) ?_
    refine Xg.any_reads (Value.slice la Ts.length lc) 9 2 (by kernel_rfl) rfl (by kernel_rfl) (by kernel_rfl) (by kernel_rfl) (by kernel_rfl) rfl rfl (by kernel_rfl) (Xg.cell_now (b := wb) (off := ((0 : Nat))) 1 rfl (by kernel_rfl)) (fun _ h => Xg.run_load (by kernel_rfl) (by kernel_rfl) h) ?_
    refine Xg.any_pure ((iv (↑Ts.length : Int))) 10 (by kernel_rfl) rfl (by kernel_rfl) (by kernel_rfl) (by kernel_rfl) (by kernel_rfl) rfl (fun _ => by kernel_rfl) ?_
    refine Xg.any_each [11, 14] (by kernel_rfl) rfl ⟨?_, ?_, trivial⟩
    refine Xg.comes_act rfl (by kernel_rfl) (by kernel_rfl) (Xg.opx_call1' [] [row xb1 (53 : Nat) [iv o.kd, iv o.p, iv o.n, Value.bool o.b], WL wb la Ts.length lc v2 v3 v4 v5, TH la lc Ts, SchedP (Ts.getD i default).fst r s, RefP (Ts.getD i default).snd r s] (fun _ => by kernel_rfl) (@hpd ) (by kernel_rfl) (by kernel_rfl) (by kernel_rfl) ?_)
    refine Xg.acts (Xg.owes_cell 1 rfl (by kernel_rfl) (Xg.owes_skip (by kernel_rfl) (Xg.owes_skip (by kernel_rfl) (Xg.owes_rd 2 (Xg.reads_own (E := ((74 : Nat))) (sz := ((2 : Nat))) (n := Ts.length) (c := lc) (a := la) (vs := (recs thK Ts))) (by kernel_rfl) (Xg.owes_rd 2 (Xg.reads_own (E := ((74 : Nat))) (sz := ((2 : Nat))) (n := Ts.length) (c := lc) (a := la) (vs := (recs thK Ts))) (by kernel_rfl) Xg.owes_nil))))) ?_
    rotate_left
    refine Xg.comes_act rfl (by kernel_rfl) (by kernel_rfl) (Xg.opx_new 2 [Value.pointer none, Value.pointer none] (by kernel_rfl) (by kernel_rfl) fun xb2 => ?_)
    refine Xg.acts (Xg.owes_cell 2 rfl (by kernel_rfl) (Xg.owes_cell 1 rfl (by kernel_rfl) (Xg.owes_cell 2 rfl (by kernel_rfl) (Xg.owes_rd 3 (Xg.reads_own (E := ((74 : Nat))) (sz := ((2 : Nat))) (n := Ts.length) (c := lc) (a := la) (vs := (recs thK Ts))) (by kernel_rfl) (Xg.owes_rd 3 (Xg.reads_own (E := ((74 : Nat))) (sz := ((2 : Nat))) (n := Ts.length) (c := lc) (a := la) (vs := (recs thK Ts))) (by kernel_rfl) Xg.owes_nil))))) ?_
    rotate_left
    refine Xg.any_reads (.pointer (some (Addr.mk (Xg.blk la) (offA la + i * (2 : Nat)) none))) 12 3 (by kernel_rfl) rfl (by kernel_rfl) (by kernel_rfl) (by kernel_rfl) (by kernel_rfl) rfl rfl (by kernel_rfl) (Xg.rd_now 2 (Xg.reads_own (E := ((74 : Nat))) (sz := ((2 : Nat))) (n := Ts.length) (c := lc) (a := la) (vs := (recs thK Ts))) (by kernel_rfl)) (Xg.run_ix_rd (elem := 74) (kd := .i64) (e := ((↑i : Int))) 2 i (offA la + i * (2 : Nat)) (by kernel_rfl) (by kernel_rfl) (by kernel_rfl) (by kernel_rfl) rfl (by omega) (by rw [Xg.recs_len (wd := 2) (fun _ => rfl)]; omega) (by omega)) ?_
    refine Xg.any_reads (.agg (List.toArray [Value.pointer (some (Addr.mk (Ts.getD i default).fst (0 : Nat) none)), Value.pointer (some (Addr.mk (Ts.getD i default).snd (0 : Nat) none))])) 13 4 (by kernel_rfl) rfl (by kernel_rfl) (by kernel_rfl) (by kernel_rfl) (by kernel_rfl) rfl rfl (by kernel_rfl) (Xg.rd_now 2 (Xg.reads_own (E := ((74 : Nat))) (sz := ((2 : Nat))) (n := Ts.length) (c := lc) (a := la) (vs := (recs thK Ts))) (by kernel_rfl)) (Xg.run_loadn_rd (off0 := (offA la + i * (2 : Nat))) 2 (i * (2 : Nat)) [Value.pointer (some (Addr.mk (Ts.getD i default).fst (0 : Nat) none)), Value.pointer (some (Addr.mk (Ts.getD i default).snd (0 : Nat) none))] (by kernel_rfl) (by kernel_rfl) (by omega) rfl (Xg.recs_at' (wd := 2) (fun _ => rfl) default i (by omega) (by omega) (by kernel_rfl)) (by kernel_rfl)) ?_
    refine Xg.any_each [14] (by kernel_rfl) rfl ⟨?_, trivial⟩
    refine Xg.comes_act rfl (by kernel_rfl) (by kernel_rfl) (Xg.opx_new 2 [Value.pointer none, Value.pointer none] (by kernel_rfl) (by kernel_rfl) fun xb2 => ?_)
    refine Xg.acts (Xg.owes_cell 2 rfl (by kernel_rfl) (Xg.owes_cell 1 rfl (by kernel_rfl) (Xg.owes_cell 2 rfl (by kernel_rfl) (Xg.owes_rd 3 (Xg.reads_own (E := ((74 : Nat))) (sz := ((2 : Nat))) (n := Ts.length) (c := lc) (a := la) (vs := (recs thK Ts))) (by kernel_rfl) (Xg.owes_rd 3 (Xg.reads_own (E := ((74 : Nat))) (sz := ((2 : Nat))) (n := Ts.length) (c := lc) (a := la) (vs := (recs thK Ts))) (by kernel_rfl) Xg.owes_nil))))) ?_
    refine Xg.any_each [15] (by kernel_rfl) rfl ⟨?_, trivial⟩
    refine Xg.comes_act rfl (by kernel_rfl) (by kernel_rfl) (Xg.opx_storen 2 (off := 0) 0 [Value.pointer (some (Addr.mk (Ts.getD i default).fst (0 : Nat) none)), Value.pointer (some (Addr.mk (Ts.getD i default).snd (0 : Nat) none))] (by kernel_rfl) rfl (by kernel_rfl) (by kernel_rfl) rfl (by kernel_rfl) (Nat.le_of_ble_eq_true (by kernel_rfl)) ?_)
    refine Xg.acts (Xg.owes_skip (by kernel_rfl) (Xg.owes_skip (by kernel_rfl) (Xg.owes_skip (by kernel_rfl) (Xg.owes_skip (by kernel_rfl) (Xg.owes_skip (by kernel_rfl) Xg.owes_nil))))) ?_
    refine Xg.any_nil (by kernel_rfl) ?_
    refine Xg.at_seq ?_
    refine Xg.at_seq ?_
    refine Xg.at_region ?_
    refine Xg.ops_op (by kernel_rfl) (Xg.opx_pure ((pv xb1 0)) rfl (fun _ => by kernel_rfl) ?_)
    refine Xg.ops_op (by kernel_rfl) (Xg.opx_load (b := xb1) (off := ((0 : Nat))) 1 (iv o.kd) rfl (by kernel_rfl) (by kernel_rfl) (by kernel_rfl) ?_)
    refine Xg.ops_nil ?_
    refine Xg.at_block ?_
    refine Xg.at_seq ?_
    refine Xg.at_region ?_
    refine Xg.ops_op (by kernel_rfl) (Xg.opx_pure (.bool (decide ((o.kd : Int) = ((2 : Int))))) rfl (fun _ => by kernel_rfl) ?_)
    refine Xg.ops_op (by kernel_rfl) (Xg.opx_pure ((Value.bool (decide (o.kd = (2 : Int))))) rfl (fun _ => by kernel_rfl) ?_)
    refine Xg.ops_nil ?_
    refine Xg.at_false (t := decide ((o.kd = (2 : Int)))) (by kernel_rfl) (decide_eq_false (by omega)) ?_
    refine Xg.at_seq ?_
    refine Xg.at_region ?_
    refine Xg.ops_op (by kernel_rfl) (Xg.opx_pure (.bool (decide ((o.kd : Int) = ((3 : Int))))) rfl (fun _ => by kernel_rfl) ?_)
    refine Xg.ops_op (by kernel_rfl) (Xg.opx_pure ((Value.bool (decide (o.kd = (3 : Int))))) rfl (fun _ => by kernel_rfl) ?_)
    refine Xg.ops_nil ?_
    refine Xg.at_false (t := decide ((o.kd = (3 : Int)))) (by kernel_rfl) (decide_eq_false (by omega)) ?_
    refine Xg.at_seq ?_
    refine Xg.at_region ?_
    refine Xg.ops_op (by kernel_rfl) (Xg.opx_pure (.bool (decide ((o.kd : Int) = ((4 : Int))))) rfl (fun _ => by kernel_rfl) ?_)
    refine Xg.ops_op (by kernel_rfl) (Xg.opx_pure ((Value.bool (decide (o.kd = (4 : Int))))) rfl (fun _ => by kernel_rfl) ?_)
    refine Xg.ops_nil ?_
    refine Xg.at_false (t := decide ((o.kd = (4 : Int)))) (by kernel_rfl) (decide_eq_false (by omega)) ?_
    refine Xg.at_seq ?_
    refine Xg.at_region ?_
    refine Xg.ops_op (by kernel_rfl) (Xg.opx_pure (.bool (decide ((o.kd : Int) = ((5 : Int))))) rfl (fun _ => by kernel_rfl) ?_)
    refine Xg.ops_op (by kernel_rfl) (Xg.opx_pure ((Value.bool (decide (o.kd = (5 : Int))))) rfl (fun _ => by kernel_rfl) ?_)
    refine Xg.ops_nil ?_
    refine Xg.at_false (t := decide ((o.kd = (5 : Int)))) (by kernel_rfl) (decide_eq_false (by omega)) ?_
    refine Xg.at_seq ?_
    refine Xg.at_region ?_
    refine Xg.ops_op (by kernel_rfl) (Xg.opx_pure (.bool (decide ((o.kd : Int) = ((6 : Int))))) rfl (fun _ => by kernel_rfl) ?_)
    refine Xg.ops_op (by kernel_rfl) (Xg.opx_pure ((Value.bool (decide (o.kd = (6 : Int))))) rfl (fun _ => by kernel_rfl) ?_)
    refine Xg.ops_nil ?_
    refine Xg.at_true (t := decide ((o.kd = (6 : Int)))) (by kernel_rfl) (decide_eq_true (by omega)) ?_
    refine Xg.at_seq ?_
    refine Xg.at_region ?_
    refine Xg.ops_op (by kernel_rfl) (Xg.opx_pure ((pv xb2 0)) rfl (fun _ => by kernel_rfl) ?_)
    refine Xg.ops_op (by kernel_rfl) (Xg.opx_load (b := xb2) (off := ((0 : Nat))) 0 (Value.pointer (some (Addr.mk (Ts.getD i default).fst (0 : Nat) none))) rfl (by kernel_rfl) (by kernel_rfl) (by kernel_rfl) ?_)
    refine Xg.ops_op (by kernel_rfl) (Xg.opx_pure ((pv xb1 2)) rfl (fun _ => by kernel_rfl) ?_)
    refine Xg.ops_op (by kernel_rfl) (Xg.opx_load (b := xb1) (off := ((2 : Nat))) 1 (iv o.n) rfl (by kernel_rfl) (by kernel_rfl) (by kernel_rfl) ?_)
    refine Xg.ops_op (by kernel_rfl) (Xg.opx_call1' [4] [SchedP (Ts.getD i default).fst r' s', row xb2 (74 : Nat) [Value.pointer (some (Addr.mk (Ts.getD i default).fst (0 : Nat) none)), Value.pointer (some (Addr.mk (Ts.getD i default).snd (0 : Nat) none))], row xb1 (53 : Nat) [iv o.kd, iv o.p, iv o.n, Value.bool o.b], WL wb la Ts.length lc v2 v3 v4 v5, TH la lc Ts, RefP (Ts.getD i default).snd r s] (fun _ => by kernel_rfl) (@hx ) (by kernel_rfl) (by kernel_rfl) (by kernel_rfl) ?_)
    refine Xg.ops_op (by kernel_rfl) (Xg.opx_pure ((Value.tuple #[iv n, iv e])) rfl (fun _ => by kernel_rfl) ?_)
    refine Xg.ops_op (by kernel_rfl) (Xg.opx_pure ((iv n)) rfl (fun _ => by kernel_rfl) ?_)
    refine Xg.ops_op (by kernel_rfl) (Xg.opx_pure ((iv e)) rfl (fun _ => by kernel_rfl) ?_)
    refine Xg.ops_op (by kernel_rfl) (Xg.opx_pure ((iv n)) rfl (fun _ => by kernel_rfl) ?_)
    refine Xg.ops_op (by kernel_rfl) (Xg.opx_pure ((iv e)) rfl (fun _ => by kernel_rfl) ?_)
    refine Xg.ops_nil ?_
    refine Xg.at_seq ?_
    refine Xg.at_region ?_
    refine Xg.ops_op (by kernel_rfl) (Xg.opx_pure ((pv xb2 1)) rfl (fun _ => by kernel_rfl) ?_)
    refine Xg.ops_op (by kernel_rfl) (Xg.opx_load (b := xb2) (off := ((1 : Nat))) 1 (Value.pointer (some (Addr.mk (Ts.getD i default).snd (0 : Nat) none))) rfl (by kernel_rfl) (by kernel_rfl) (by kernel_rfl) ?_)
    refine Xg.ops_op (by kernel_rfl) (Xg.opx_pure ((pv xb1 2)) rfl (fun _ => by kernel_rfl) ?_)
    refine Xg.ops_op (by kernel_rfl) (Xg.opx_load (b := xb1) (off := ((2 : Nat))) 2 (iv o.n) rfl (by kernel_rfl) (by kernel_rfl) (by kernel_rfl) ?_)
    refine Xg.ops_op (by kernel_rfl) (Xg.opx_call1' [5] [RefP (Ts.getD i default).snd r' s', SchedP (Ts.getD i default).fst r' s', row xb2 (74 : Nat) [Value.pointer (some (Addr.mk (Ts.getD i default).fst (0 : Nat) none)), Value.pointer (some (Addr.mk (Ts.getD i default).snd (0 : Nat) none))], row xb1 (53 : Nat) [iv o.kd, iv o.p, iv o.n, Value.bool o.b], WL wb la Ts.length lc v2 v3 v4 v5, TH la lc Ts] (fun _ => by kernel_rfl) (@hy ) (by kernel_rfl) (by kernel_rfl) (by kernel_rfl) ?_)
    refine Xg.ops_op (by kernel_rfl) (Xg.opx_pure ((Value.tuple #[iv n, iv e])) rfl (fun _ => by kernel_rfl) ?_)
    refine Xg.ops_op (by kernel_rfl) (Xg.opx_pure ((iv n)) rfl (fun _ => by kernel_rfl) ?_)
    refine Xg.ops_op (by kernel_rfl) (Xg.opx_pure ((iv e)) rfl (fun _ => by kernel_rfl) ?_)
    refine Xg.ops_op (by kernel_rfl) (Xg.opx_pure ((iv n)) rfl (fun _ => by kernel_rfl) ?_)
    refine Xg.ops_op (by kernel_rfl) (Xg.opx_pure ((iv e)) rfl (fun _ => by kernel_rfl) ?_)
    refine Xg.ops_nil ?_
    refine Xg.at_seq ?_
    refine Xg.at_region ?_
    refine Xg.ops_op (by kernel_rfl) (Xg.opx_pure ((iv n)) rfl (fun _ => by kernel_rfl) ?_)
    refine Xg.ops_op (by kernel_rfl) (Xg.opx_pure ((iv n)) rfl (fun _ => by kernel_rfl) ?_)
    refine Xg.ops_op (by kernel_rfl) (Xg.opx_pure (.bool (decide ((n : Int) = n))) rfl (fun _ => by kernel_rfl) ?_)
    refine Xg.ops_op (by kernel_rfl) (Xg.opx_pure ((Value.bool (decide (n = n)))) rfl (fun _ => by kernel_rfl) ?_)
    refine Xg.ops_flag (j := 196) (c := (decide (n = n))) (by kernel_rfl) (fun _ => ?_) (fun xh1 => absurd (of_decide_eq_false xh1) (by omega))
    refine Xg.ops_op (by kernel_rfl) (Xg.opx_pure ((iv e)) rfl (fun _ => by kernel_rfl) ?_)
    refine Xg.ops_op (by kernel_rfl) (Xg.opx_call1' [] [RefP (Ts.getD i default).snd r' s', SchedP (Ts.getD i default).fst r' s', row xb2 (74 : Nat) [Value.pointer (some (Addr.mk (Ts.getD i default).fst (0 : Nat) none)), Value.pointer (some (Addr.mk (Ts.getD i default).snd (0 : Nat) none))], row xb1 (53 : Nat) [iv o.kd, iv o.p, iv o.n, Value.bool o.b], WL wb la Ts.length lc v2 v3 v4 v5, TH la lc Ts] (fun _ => by kernel_rfl) (@Go.Proofs.Ytijjficnhpokdaa.num_d (e)) (by kernel_rfl) (by kernel_rfl) (by kernel_rfl) ?_)
    refine Xg.ops_op (by kernel_rfl) (Xg.opx_pure ((iv e)) rfl (fun _ => by kernel_rfl) ?_)
    refine Xg.ops_op (by kernel_rfl) (Xg.opx_call1' [] [RefP (Ts.getD i default).snd r' s', SchedP (Ts.getD i default).fst r' s', row xb2 (74 : Nat) [Value.pointer (some (Addr.mk (Ts.getD i default).fst (0 : Nat) none)), Value.pointer (some (Addr.mk (Ts.getD i default).snd (0 : Nat) none))], row xb1 (53 : Nat) [iv o.kd, iv o.p, iv o.n, Value.bool o.b], WL wb la Ts.length lc v2 v3 v4 v5, TH la lc Ts] (fun _ => by kernel_rfl) (@Go.Proofs.Ytijjficnhpokdaa.num_d (e)) (by kernel_rfl) (by kernel_rfl) (by kernel_rfl) ?_)
    refine Xg.ops_op (by kernel_rfl) (Xg.opx_pure (.bool (decide ((e : Int) = e))) rfl (fun _ => by kernel_rfl) ?_)
    refine Xg.ops_flag (j := 201) (c := (decide (e = e))) (by kernel_rfl) (fun _ => ?_) (fun xh1 => absurd (of_decide_eq_false xh1) (by omega))
    refine Xg.ops_op (by kernel_rfl) (Xg.opx_pure ((Value.bool true)) rfl (fun _ => by kernel_rfl) ?_)
    refine Xg.ops_op (by kernel_rfl) (Xg.opx_pure ((Value.bool true)) rfl (fun _ => by kernel_rfl) ?_)
    refine Xg.ops_nil ?_
    refine Xg.at_ret_ps (v := (Value.bool true)) [4, 5, 1, 0] [WL wb la Ts.length lc v2 v3 v4 v5, TH la lc Ts, SchedP (Ts.getD i default).fst r' s', RefP (Ts.getD i default).snd r' s'] Go.Proofs.Try.func19 (fun _ => by kernel_rfl) (by kernel_rfl) (by kernel_rfl) ?_
    exact ⟨by kernel_rfl, by kernel_rfl⟩
    refine Xg.any_each [11] (by kernel_rfl) rfl ⟨?_, trivial⟩
    refine Xg.comes_act rfl (by kernel_rfl) (by kernel_rfl) (Xg.opx_call1' [] [row xb2 (74 : Nat) [Value.pointer none, Value.pointer none], row xb1 (53 : Nat) [iv o.kd, iv o.p, iv o.n, Value.bool o.b], WL wb la Ts.length lc v2 v3 v4 v5, TH la lc Ts, SchedP (Ts.getD i default).fst r s, RefP (Ts.getD i default).snd r s] (fun _ => by kernel_rfl) (@hpd ) (by kernel_rfl) (by kernel_rfl) (by kernel_rfl) ?_)
    refine Xg.acts (Xg.owes_cell 2 rfl (by kernel_rfl) (Xg.owes_skip (by kernel_rfl) (Xg.owes_skip (by kernel_rfl) (Xg.owes_rd 3 (Xg.reads_own (E := ((74 : Nat))) (sz := ((2 : Nat))) (n := Ts.length) (c := lc) (a := la) (vs := (recs thK Ts))) (by kernel_rfl) (Xg.owes_rd 3 (Xg.reads_own (E := ((74 : Nat))) (sz := ((2 : Nat))) (n := Ts.length) (c := lc) (a := la) (vs := (recs thK Ts))) (by kernel_rfl) Xg.owes_nil))))) ?_
    refine Xg.any_reads (.pointer (some (Addr.mk (Xg.blk la) (offA la + i * (2 : Nat)) none))) 12 3 (by kernel_rfl) rfl (by kernel_rfl) (by kernel_rfl) (by kernel_rfl) (by kernel_rfl) rfl rfl (by kernel_rfl) (Xg.rd_now 3 (Xg.reads_own (E := ((74 : Nat))) (sz := ((2 : Nat))) (n := Ts.length) (c := lc) (a := la) (vs := (recs thK Ts))) (by kernel_rfl)) (Xg.run_ix_rd (elem := 74) (kd := .i64) (e := ((↑i : Int))) 2 i (offA la + i * (2 : Nat)) (by kernel_rfl) (by kernel_rfl) (by kernel_rfl) (by kernel_rfl) rfl (by omega) (by rw [Xg.recs_len (wd := 2) (fun _ => rfl)]; omega) (by omega)) ?_
    refine Xg.any_reads (.agg (List.toArray [Value.pointer (some (Addr.mk (Ts.getD i default).fst (0 : Nat) none)), Value.pointer (some (Addr.mk (Ts.getD i default).snd (0 : Nat) none))])) 13 4 (by kernel_rfl) rfl (by kernel_rfl) (by kernel_rfl) (by kernel_rfl) (by kernel_rfl) rfl rfl (by kernel_rfl) (Xg.rd_now 3 (Xg.reads_own (E := ((74 : Nat))) (sz := ((2 : Nat))) (n := Ts.length) (c := lc) (a := la) (vs := (recs thK Ts))) (by kernel_rfl)) (Xg.run_loadn_rd (off0 := (offA la + i * (2 : Nat))) 2 (i * (2 : Nat)) [Value.pointer (some (Addr.mk (Ts.getD i default).fst (0 : Nat) none)), Value.pointer (some (Addr.mk (Ts.getD i default).snd (0 : Nat) none))] (by kernel_rfl) (by kernel_rfl) (by omega) rfl (Xg.recs_at' (wd := 2) (fun _ => rfl) default i (by omega) (by omega) (by kernel_rfl)) (by kernel_rfl)) ?_
    refine Xg.any_each [15] (by kernel_rfl) rfl ⟨?_, trivial⟩
    refine Xg.comes_act rfl (by kernel_rfl) (by kernel_rfl) (Xg.opx_storen 2 (off := 0) 0 [Value.pointer (some (Addr.mk (Ts.getD i default).fst (0 : Nat) none)), Value.pointer (some (Addr.mk (Ts.getD i default).snd (0 : Nat) none))] (by kernel_rfl) rfl (by kernel_rfl) (by kernel_rfl) rfl (by kernel_rfl) (Nat.le_of_ble_eq_true (by kernel_rfl)) ?_)
    refine Xg.acts (Xg.owes_skip (by kernel_rfl) (Xg.owes_skip (by kernel_rfl) (Xg.owes_skip (by kernel_rfl) (Xg.owes_skip (by kernel_rfl) (Xg.owes_skip (by kernel_rfl) Xg.owes_nil))))) ?_
    refine Xg.any_nil (by kernel_rfl) ?_
    refine Xg.at_seq ?_
    refine Xg.at_seq ?_
    refine Xg.at_region ?_
    refine Xg.ops_op (by kernel_rfl) (Xg.opx_pure ((pv xb1 0)) rfl (fun _ => by kernel_rfl) ?_)
    refine Xg.ops_op (by kernel_rfl) (Xg.opx_load (b := xb1) (off := ((0 : Nat))) 1 (iv o.kd) rfl (by kernel_rfl) (by kernel_rfl) (by kernel_rfl) ?_)
    refine Xg.ops_nil ?_
    refine Xg.at_block ?_
    refine Xg.at_seq ?_
    refine Xg.at_region ?_
    refine Xg.ops_op (by kernel_rfl) (Xg.opx_pure (.bool (decide ((o.kd : Int) = ((2 : Int))))) rfl (fun _ => by kernel_rfl) ?_)
    refine Xg.ops_op (by kernel_rfl) (Xg.opx_pure ((Value.bool (decide (o.kd = (2 : Int))))) rfl (fun _ => by kernel_rfl) ?_)
    refine Xg.ops_nil ?_
    refine Xg.at_false (t := decide ((o.kd = (2 : Int)))) (by kernel_rfl) (decide_eq_false (by omega)) ?_
    refine Xg.at_seq ?_
    refine Xg.at_region ?_
    refine Xg.ops_op (by kernel_rfl) (Xg.opx_pure (.bool (decide ((o.kd : Int) = ((3 : Int))))) rfl (fun _ => by kernel_rfl) ?_)
    refine Xg.ops_op (by kernel_rfl) (Xg.opx_pure ((Value.bool (decide (o.kd = (3 : Int))))) rfl (fun _ => by kernel_rfl) ?_)
    refine Xg.ops_nil ?_
    refine Xg.at_false (t := decide ((o.kd = (3 : Int)))) (by kernel_rfl) (decide_eq_false (by omega)) ?_
    refine Xg.at_seq ?_
    refine Xg.at_region ?_
    refine Xg.ops_op (by kernel_rfl) (Xg.opx_pure (.bool (decide ((o.kd : Int) = ((4 : Int))))) rfl (fun _ => by kernel_rfl) ?_)
    refine Xg.ops_op (by kernel_rfl) (Xg.opx_pure ((Value.bool (decide (o.kd = (4 : Int))))) rfl (fun _ => by kernel_rfl) ?_)
    refine Xg.ops_nil ?_
    refine Xg.at_false (t := decide ((o.kd = (4 : Int)))) (by kernel_rfl) (decide_eq_false (by omega)) ?_
    refine Xg.at_seq ?_
    refine Xg.at_region ?_
    refine Xg.ops_op (by kernel_rfl) (Xg.opx_pure (.bool (decide ((o.kd : Int) = ((5 : Int))))) rfl (fun _ => by kernel_rfl) ?_)
    refine Xg.ops_op (by kernel_rfl) (Xg.opx_pure ((Value.bool (decide (o.kd = (5 : Int))))) rfl (fun _ => by kernel_rfl) ?_)
    refine Xg.ops_nil ?_
    refine Xg.at_false (t := decide ((o.kd = (5 : Int)))) (by kernel_rfl) (decide_eq_false (by omega)) ?_
    refine Xg.at_seq ?_
    refine Xg.at_region ?_
    refine Xg.ops_op (by kernel_rfl) (Xg.opx_pure (.bool (decide ((o.kd : Int) = ((6 : Int))))) rfl (fun _ => by kernel_rfl) ?_)
    refine Xg.ops_op (by kernel_rfl) (Xg.opx_pure ((Value.bool (decide (o.kd = (6 : Int))))) rfl (fun _ => by kernel_rfl) ?_)
    refine Xg.ops_nil ?_
    refine Xg.at_true (t := decide ((o.kd = (6 : Int)))) (by kernel_rfl) (decide_eq_true (by omega)) ?_
    refine Xg.at_seq ?_
    refine Xg.at_region ?_
    refine Xg.ops_op (by kernel_rfl) (Xg.opx_pure ((pv xb2 0)) rfl (fun _ => by kernel_rfl) ?_)
    refine Xg.ops_op (by kernel_rfl) (Xg.opx_load (b := xb2) (off := ((0 : Nat))) 0 (Value.pointer (some (Addr.mk (Ts.getD i default).fst (0 : Nat) none))) rfl (by kernel_rfl) (by kernel_rfl) (by kernel_rfl) ?_)
    refine Xg.ops_op (by kernel_rfl) (Xg.opx_pure ((pv xb1 2)) rfl (fun _ => by kernel_rfl) ?_)
    refine Xg.ops_op (by kernel_rfl) (Xg.opx_load (b := xb1) (off := ((2 : Nat))) 1 (iv o.n) rfl (by kernel_rfl) (by kernel_rfl) (by kernel_rfl) ?_)
    refine Xg.ops_op (by kernel_rfl) (Xg.opx_call1' [4] [SchedP (Ts.getD i default).fst r' s', row xb2 (74 : Nat) [Value.pointer (some (Addr.mk (Ts.getD i default).fst (0 : Nat) none)), Value.pointer (some (Addr.mk (Ts.getD i default).snd (0 : Nat) none))], row xb1 (53 : Nat) [iv o.kd, iv o.p, iv o.n, Value.bool o.b], WL wb la Ts.length lc v2 v3 v4 v5, TH la lc Ts, RefP (Ts.getD i default).snd r s] (fun _ => by kernel_rfl) (@hx ) (by kernel_rfl) (by kernel_rfl) (by kernel_rfl) ?_)
    refine Xg.ops_op (by kernel_rfl) (Xg.opx_pure ((Value.tuple #[iv n, iv e])) rfl (fun _ => by kernel_rfl) ?_)
    refine Xg.ops_op (by kernel_rfl) (Xg.opx_pure ((iv n)) rfl (fun _ => by kernel_rfl) ?_)
    refine Xg.ops_op (by kernel_rfl) (Xg.opx_pure ((iv e)) rfl (fun _ => by kernel_rfl) ?_)
    refine Xg.ops_op (by kernel_rfl) (Xg.opx_pure ((iv n)) rfl (fun _ => by kernel_rfl) ?_)
    refine Xg.ops_op (by kernel_rfl) (Xg.opx_pure ((iv e)) rfl (fun _ => by kernel_rfl) ?_)
    refine Xg.ops_nil ?_
    refine Xg.at_seq ?_
    refine Xg.at_region ?_
    refine Xg.ops_op (by kernel_rfl) (Xg.opx_pure ((pv xb2 1)) rfl (fun _ => by kernel_rfl) ?_)
    refine Xg.ops_op (by kernel_rfl) (Xg.opx_load (b := xb2) (off := ((1 : Nat))) 1 (Value.pointer (some (Addr.mk (Ts.getD i default).snd (0 : Nat) none))) rfl (by kernel_rfl) (by kernel_rfl) (by kernel_rfl) ?_)
    refine Xg.ops_op (by kernel_rfl) (Xg.opx_pure ((pv xb1 2)) rfl (fun _ => by kernel_rfl) ?_)
    refine Xg.ops_op (by kernel_rfl) (Xg.opx_load (b := xb1) (off := ((2 : Nat))) 2 (iv o.n) rfl (by kernel_rfl) (by kernel_rfl) (by kernel_rfl) ?_)
    refine Xg.ops_op (by kernel_rfl) (Xg.opx_call1' [5] [RefP (Ts.getD i default).snd r' s', SchedP (Ts.getD i default).fst r' s', row xb2 (74 : Nat) [Value.pointer (some (Addr.mk (Ts.getD i default).fst (0 : Nat) none)), Value.pointer (some (Addr.mk (Ts.getD i default).snd (0 : Nat) none))], row xb1 (53 : Nat) [iv o.kd, iv o.p, iv o.n, Value.bool o.b], WL wb la Ts.length lc v2 v3 v4 v5, TH la lc Ts] (fun _ => by kernel_rfl) (@hy ) (by kernel_rfl) (by kernel_rfl) (by kernel_rfl) ?_)
    refine Xg.ops_op (by kernel_rfl) (Xg.opx_pure ((Value.tuple #[iv n, iv e])) rfl (fun _ => by kernel_rfl) ?_)
    refine Xg.ops_op (by kernel_rfl) (Xg.opx_pure ((iv n)) rfl (fun _ => by kernel_rfl) ?_)
    refine Xg.ops_op (by kernel_rfl) (Xg.opx_pure ((iv e)) rfl (fun _ => by kernel_rfl) ?_)
    refine Xg.ops_op (by kernel_rfl) (Xg.opx_pure ((iv n)) rfl (fun _ => by kernel_rfl) ?_)
    refine Xg.ops_op (by kernel_rfl) (Xg.opx_pure ((iv e)) rfl (fun _ => by kernel_rfl) ?_)
    refine Xg.ops_nil ?_
    refine Xg.at_seq ?_
    refine Xg.at_region ?_
    refine Xg.ops_op (by kernel_rfl) (Xg.opx_pure ((iv n)) rfl (fun _ => by kernel_rfl) ?_)
    refine Xg.ops_op (by kernel_rfl) (Xg.opx_pure ((iv n)) rfl (fun _ => by kernel_rfl) ?_)
    refine Xg.ops_op (by kernel_rfl) (Xg.opx_pure (.bool (decide ((n : Int) = n))) rfl (fun _ => by kernel_rfl) ?_)
    refine Xg.ops_op (by kernel_rfl) (Xg.opx_pure ((Value.bool (decide (n = n)))) rfl (fun _ => by kernel_rfl) ?_)
    refine Xg.ops_flag (j := 196) (c := (decide (n = n))) (by kernel_rfl) (fun _ => ?_) (fun xh1 => absurd (of_decide_eq_false xh1) (by omega))
    refine Xg.ops_op (by kernel_rfl) (Xg.opx_pure ((iv e)) rfl (fun _ => by kernel_rfl) ?_)
    refine Xg.ops_op (by kernel_rfl) (Xg.opx_call1' [] [RefP (Ts.getD i default).snd r' s', SchedP (Ts.getD i default).fst r' s', row xb2 (74 : Nat) [Value.pointer (some (Addr.mk (Ts.getD i default).fst (0 : Nat) none)), Value.pointer (some (Addr.mk (Ts.getD i default).snd (0 : Nat) none))], row xb1 (53 : Nat) [iv o.kd, iv o.p, iv o.n, Value.bool o.b], WL wb la Ts.length lc v2 v3 v4 v5, TH la lc Ts] (fun _ => by kernel_rfl) (@Go.Proofs.Ytijjficnhpokdaa.num_d (e)) (by kernel_rfl) (by kernel_rfl) (by kernel_rfl) ?_)
    refine Xg.ops_op (by kernel_rfl) (Xg.opx_pure ((iv e)) rfl (fun _ => by kernel_rfl) ?_)
    refine Xg.ops_op (by kernel_rfl) (Xg.opx_call1' [] [RefP (Ts.getD i default).snd r' s', SchedP (Ts.getD i default).fst r' s', row xb2 (74 : Nat) [Value.pointer (some (Addr.mk (Ts.getD i default).fst (0 : Nat) none)), Value.pointer (some (Addr.mk (Ts.getD i default).snd (0 : Nat) none))], row xb1 (53 : Nat) [iv o.kd, iv o.p, iv o.n, Value.bool o.b], WL wb la Ts.length lc v2 v3 v4 v5, TH la lc Ts] (fun _ => by kernel_rfl) (@Go.Proofs.Ytijjficnhpokdaa.num_d (e)) (by kernel_rfl) (by kernel_rfl) (by kernel_rfl) ?_)
    refine Xg.ops_op (by kernel_rfl) (Xg.opx_pure (.bool (decide ((e : Int) = e))) rfl (fun _ => by kernel_rfl) ?_)
    refine Xg.ops_flag (j := 201) (c := (decide (e = e))) (by kernel_rfl) (fun _ => ?_) (fun xh1 => absurd (of_decide_eq_false xh1) (by omega))
    refine Xg.ops_op (by kernel_rfl) (Xg.opx_pure ((Value.bool true)) rfl (fun _ => by kernel_rfl) ?_)
    refine Xg.ops_op (by kernel_rfl) (Xg.opx_pure ((Value.bool true)) rfl (fun _ => by kernel_rfl) ?_)
    refine Xg.ops_nil ?_
    refine Xg.at_ret_ps (v := (Value.bool true)) [4, 5, 1, 0] [WL wb la Ts.length lc v2 v3 v4 v5, TH la lc Ts, SchedP (Ts.getD i default).fst r' s', RefP (Ts.getD i default).snd r' s'] Go.Proofs.Try.func19 (fun _ => by kernel_rfl) (by kernel_rfl) (by kernel_rfl) ?_
    exact ⟨by kernel_rfl, by kernel_rfl⟩)
omit hi' hil hT2 in
theorem step_other (hk : o.kd < 1 ∨ 7 < o.kd) (hT2 : Ts.length ≤ 100000000) (hi' : pickN o.p Ts.length = i) (hil : i < Ts.length) : Does Try.prog 19 [.pointer (some ⟨wb, 0, none⟩), spV o] [WL wb la Ts.length lc v2 v3 v4 v5, TH la lc Ts] (Ret (.bool true) [WL wb la Ts.length lc v2 v3 v4 v5, TH la lc Ts]) := by
  have hpd := pick_r o.p Ts.length hp hT
  rw [hi'] at hpd
  (focus
    refine Xg.spec_of Go.Proofs.Try.func19 rfl Go.Proofs.Try.ntmps19 fun g F => ?_)
  (focus
    refine Xg.at_seq ?_
    refine Xg.at_region ?_
    refine Xg.ops_op (by kernel_rfl) (Xg.opx_box (v := (Value.agg #[iv o.kd, iv o.p, iv o.n, Value.bool o.b])) [iv o.kd, iv o.p, iv o.n, Value.bool o.b] (by kernel_rfl) (by kernel_rfl) fun xb1 => ?_)
    refine Xg.ops_op (by kernel_rfl) (Xg.opx_pure ((Value.bool false)) rfl (fun _ => by kernel_rfl) ?_)
    refine Xg.ops_nil ?_
    refine Xg.at_seq ?_
    refine Xg.at_seq ?_
    refine Xg.at_region ?_
    refine Xg.ops_op (by kernel_rfl) (Xg.opx_pure ((pv xb1 0)) rfl (fun _ => by kernel_rfl) ?_)
    refine Xg.ops_op (by kernel_rfl) (Xg.opx_load (b := xb1) (off := ((0 : Nat))) 0 (iv o.kd) rfl (by kernel_rfl) (by kernel_rfl) (by kernel_rfl) ?_)
    refine Xg.ops_op (by kernel_rfl) (Xg.opx_pure (.bool (decide ((o.kd : Int) = ((1 : Int))))) rfl (fun _ => by kernel_rfl) ?_)
    refine Xg.ops_nil ?_
    refine Xg.at_false (t := decide ((o.kd = (1 : Int)))) (by kernel_rfl) (decide_eq_false (by omega)) ?_
    refine Xg.at_skip ?_
    refine Xg.at_seq ?_
    refine Xg.at_seq ?_
    refine Xg.at_region ?_
    refine Xg.ops_op (by kernel_rfl) (Xg.opx_pure ((pv wb 0)) rfl (fun _ => by kernel_rfl) ?_)
    refine Xg.ops_op (by kernel_rfl) (Xg.opx_pure ((pv wb 0)) rfl (fun _ => by kernel_rfl) ?_)
    refine Xg.ops_op (by kernel_rfl) (Xg.opx_pure ((pv wb 0)) rfl (fun _ => by kernel_rfl) ?_)
    refine Xg.ops_op (by kernel_rfl) (Xg.opx_load (b := wb) (off := ((0 : Nat))) 1 (Value.slice la Ts.length lc) rfl (by kernel_rfl) (by kernel_rfl) (by kernel_rfl) ?_)
    refine Xg.ops_op (by kernel_rfl) (Xg.opx_pure ((iv (↑Ts.length : Int))) rfl (fun _ => by kernel_rfl) ?_)
    refine Xg.ops_op (by kernel_rfl) (Xg.opx_pure (.bool (decide ((((↑Ts.length : Int)) : Int) = ((0 : Int))))) rfl (fun _ => by kernel_rfl) ?_)
    refine Xg.ops_nil ?_
    refine Xg.at_false (t := decide (((↑Ts.length : Int) = (0 : Int)))) (by kernel_rfl) (decide_eq_false (by omega)) ?_
    refine Xg.at_skip ?_
    refine Xg.at_seq ?_
    refine Xg.at_draw [11, 14, 15] [(3, [0, 1, 2, 3, 4, 5, 6, 7, 8, 9, 10, 11, 14], Xg.CellIs (wb) (((0 : Nat))) ((Value.slice la Ts.length lc))), (5, [0, 1, 2, 3, 4, 5, 6, 7, 8, 9, 10, 14], Xg.CellIs (xb1) (((1 : Nat))) ((iv o.p))), (9, [0, 1, 2, 3, 4, 5, 6, 7, 8, 9, 14], Xg.CellIs (wb) (((0 : Nat))) ((Value.slice la Ts.length lc))), (12, [0, 1, 2, 3, 4, 5, 6, 7, 8, 9, 10, 11, 12, 14], (RdIs (2 : Nat) (Value.slice la Ts.length lc) Ts.length (recs thK Ts))), (13, [0, 1, 2, 3, 4, 5, 6, 7, 8, 9, 10, 11, 12, 13, 14], (RdIs (2 : Nat) (Value.slice la Ts.length lc) Ts.length (recs thK Ts)))] (by kernel_rfl) ?_
    refine Xg.any_pure ((pv wb 0)) 0 (by kernel_rfl) rfl (by kernel_rfl) (by kernel_rfl) (by kernel_rfl) (by kernel_rfl) rfl (fun _ => by kernel_rfl) ?_
    refine Xg.any_pure ((pv wb 0)) 1 (by kernel_rfl) rfl (by kernel_rfl) (by kernel_rfl) (by kernel_rfl) (by kernel_rfl) rfl (fun _ => by kernel_rfl) ?_
    refine Xg.any_pure ((pv wb 0)) 2 (by kernel_rfl) rfl (by kernel_rfl) (by kernel_rfl) (by kernel_rfl) (by kernel_rfl) rfl (fun _ => by kernel_rfl) ?_
    refine Xg.any_reads (Value.slice la Ts.length lc) 3 0 (by kernel_rfl) rfl (by kernel_rfl) (by kernel_rfl) (by kernel_rfl) (by kernel_rfl) rfl rfl (by kernel_rfl) (Xg.cell_now (b := wb) (off := ((0 : Nat))) 1 rfl (by kernel_rfl)) (fun _ h => Xg.run_load (by kernel_rfl) (by kernel_rfl) h) ?_
    refine Xg.any_pure ((pv xb1 1)) 4 (by kernel_rfl) rfl (by kernel_rfl) (by kernel_rfl) (by kernel_rfl) (by kernel_rfl) rfl (fun _ => by kernel_rfl) ?_
    refine Xg.any_reads (iv o.p) 5 1 (by kernel_rfl) rfl (by kernel_rfl) (by kernel_rfl) (by kernel_rfl) (by kernel_rfl) rfl rfl (by kernel_rfl) (Xg.cell_now (b := xb1) (off := ((1 : Nat))) 0 rfl (by kernel_rfl)) (fun _ h => Xg.run_load (by kernel_rfl) (by kernel_rfl) h) ?_
    refine Xg.any_pure ((pv wb 0)) 6 (by kernel_rfl) rfl (by kernel_rfl) (by kernel_rfl) (by kernel_rfl) (by kernel_rfl) rfl (fun _ => by kernel_rfl) ?_
    refine Xg.any_pure ((pv wb 0)) 7 (by kernel_rfl) rfl (by kernel_rfl) (by kernel_rfl) (by kernel_rfl) (by kernel_rfl) rfl (fun _ => by kernel_rfl) ?_
    refine Xg.any_pure ((pv wb 0)) 8 (by kernel_rfl) rfl (by kernel_rfl) (by kernel_rfl) (by kernel_rfl) (by kernel_rfl) rfl (fun _ => by kernel_rfl) ?_
    refine Xg.any_reads (Value.slice la Ts.length lc) 9 2 (by kernel_rfl) rfl (by kernel_rfl) (by kernel_rfl) (by kernel_rfl) (by kernel_rfl) rfl rfl (by kernel_rfl) (Xg.cell_now (b := wb) (off := ((0 : Nat))) 1 rfl (by kernel_rfl)) (fun _ h => Xg.run_load (by kernel_rfl) (by kernel_rfl) h) ?_
    refine Xg.any_pure ((iv (↑Ts.length : Int))) 10 (by kernel_rfl) rfl (by kernel_rfl) (by kernel_rfl) (by kernel_rfl) (by kernel_rfl) rfl (fun _ => by kernel_rfl) ?_
    refine Xg.any_each [11, 14] (by kernel_rfl) rfl ⟨?_, ?_, trivial⟩
    refine Xg.comes_act rfl (by kernel_rfl) (by kernel_rfl) (Xg.opx_call1' [] [row xb1 (53 : Nat) [iv o.kd, iv o.p, iv o.n, Value.bool o.b], WL wb la Ts.length lc v2 v3 v4 v5, TH la lc Ts] (fun _ => by kernel_rfl) (@hpd ) (by kernel_rfl) (by kernel_rfl) (by kernel_rfl) ?_)
    refine Xg.acts (Xg.owes_cell 1 rfl (by kernel_rfl) (Xg.owes_skip (by kernel_rfl) (Xg.owes_skip (by kernel_rfl) (Xg.owes_rd 2 (Xg.reads_own (E := ((74 : Nat))) (sz := ((2 : Nat))) (n := Ts.length) (c := lc) (a := la) (vs := (recs thK Ts))) (by kernel_rfl) (Xg.owes_rd 2 (Xg.reads_own (E := ((74 : Nat))) (sz := ((2 : Nat))) (n := Ts.length) (c := lc) (a := la) (vs := (recs thK Ts))) (by kernel_rfl) Xg.owes_nil))))) ?_
    rotate_left
    refine Xg.comes_act rfl (by kernel_rfl) (by kernel_rfl) (Xg.opx_new 2 [Value.pointer none, Value.pointer none] (by kernel_rfl) (by kernel_rfl) fun xb2 => ?_)
    refine Xg.acts (Xg.owes_cell 2 rfl (by kernel_rfl) (Xg.owes_cell 1 rfl (by kernel_rfl) (Xg.owes_cell 2 rfl (by kernel_rfl) (Xg.owes_rd 3 (Xg.reads_own (E := ((74 : Nat))) (sz := ((2 : Nat))) (n := Ts.length) (c := lc) (a := la) (vs := (recs thK Ts))) (by kernel_rfl) (Xg.owes_rd 3 (Xg.reads_own (E := ((74 : Nat))) (sz := ((2 : Nat))) (n := Ts.length) (c := lc) (a := la) (vs := (recs thK Ts))) (by kernel_rfl) Xg.owes_nil))))) ?_
    rotate_left
    refine Xg.any_reads (.pointer (some (Addr.mk (Xg.blk la) (offA la + i * (2 : Nat)) none))) 12 3 (by kernel_rfl) rfl (by kernel_rfl) (by kernel_rfl) (by kernel_rfl) (by kernel_rfl) rfl rfl (by kernel_rfl) (Xg.rd_now 2 (Xg.reads_own (E := ((74 : Nat))) (sz := ((2 : Nat))) (n := Ts.length) (c := lc) (a := la) (vs := (recs thK Ts))) (by kernel_rfl)) (Xg.run_ix_rd (elem := 74) (kd := .i64) (e := ((↑i : Int))) 2 i (offA la + i * (2 : Nat)) (by kernel_rfl) (by kernel_rfl) (by kernel_rfl) (by kernel_rfl) rfl (by omega) (by rw [Xg.recs_len (wd := 2) (fun _ => rfl)]; omega) (by omega)) ?_
    refine Xg.any_reads (.agg (List.toArray [Value.pointer (some (Addr.mk (Ts.getD i default).fst (0 : Nat) none)), Value.pointer (some (Addr.mk (Ts.getD i default).snd (0 : Nat) none))])) 13 4 (by kernel_rfl) rfl (by kernel_rfl) (by kernel_rfl) (by kernel_rfl) (by kernel_rfl) rfl rfl (by kernel_rfl) (Xg.rd_now 2 (Xg.reads_own (E := ((74 : Nat))) (sz := ((2 : Nat))) (n := Ts.length) (c := lc) (a := la) (vs := (recs thK Ts))) (by kernel_rfl)) (Xg.run_loadn_rd (off0 := (offA la + i * (2 : Nat))) 2 (i * (2 : Nat)) [Value.pointer (some (Addr.mk (Ts.getD i default).fst (0 : Nat) none)), Value.pointer (some (Addr.mk (Ts.getD i default).snd (0 : Nat) none))] (by kernel_rfl) (by kernel_rfl) (by omega) rfl (Xg.recs_at' (wd := 2) (fun _ => rfl) default i (by omega) (by omega) (by kernel_rfl)) (by kernel_rfl)) ?_
    refine Xg.any_each [14] (by kernel_rfl) rfl ⟨?_, trivial⟩
    refine Xg.comes_act rfl (by kernel_rfl) (by kernel_rfl) (Xg.opx_new 2 [Value.pointer none, Value.pointer none] (by kernel_rfl) (by kernel_rfl) fun xb2 => ?_)
    refine Xg.acts (Xg.owes_cell 2 rfl (by kernel_rfl) (Xg.owes_cell 1 rfl (by kernel_rfl) (Xg.owes_cell 2 rfl (by kernel_rfl) (Xg.owes_rd 3 (Xg.reads_own (E := ((74 : Nat))) (sz := ((2 : Nat))) (n := Ts.length) (c := lc) (a := la) (vs := (recs thK Ts))) (by kernel_rfl) (Xg.owes_rd 3 (Xg.reads_own (E := ((74 : Nat))) (sz := ((2 : Nat))) (n := Ts.length) (c := lc) (a := la) (vs := (recs thK Ts))) (by kernel_rfl) Xg.owes_nil))))) ?_
    refine Xg.any_each [15] (by kernel_rfl) rfl ⟨?_, trivial⟩
    refine Xg.comes_act rfl (by kernel_rfl) (by kernel_rfl) (Xg.opx_storen 2 (off := 0) 0 [Value.pointer (some (Addr.mk (Ts.getD i default).fst (0 : Nat) none)), Value.pointer (some (Addr.mk (Ts.getD i default).snd (0 : Nat) none))] (by kernel_rfl) rfl (by kernel_rfl) (by kernel_rfl) rfl (by kernel_rfl) (Nat.le_of_ble_eq_true (by kernel_rfl)) ?_)
    refine Xg.acts (Xg.owes_skip (by kernel_rfl) (Xg.owes_skip (by kernel_rfl) (Xg.owes_skip (by kernel_rfl) (Xg.owes_skip (by kernel_rfl) (Xg.owes_skip (by kernel_rfl) Xg.owes_nil))))) ?_
    refine Xg.any_nil (by kernel_rfl) ?_
    refine Xg.at_seq ?_
    refine Xg.at_seq ?_
    refine Xg.at_region ?_
    refine Xg.ops_op (by kernel_rfl) (Xg.opx_pure ((pv xb1 0)) rfl (fun _ => by kernel_rfl) ?_)
    refine Xg.ops_op (by kernel_rfl) (Xg.opx_load (b := xb1) (off := ((0 : Nat))) 1 (iv o.kd) rfl (by kernel_rfl) (by kernel_rfl) (by kernel_rfl) ?_)
    refine Xg.ops_nil ?_
    refine Xg.at_block ?_
    refine Xg.at_seq ?_
    refine Xg.at_region ?_
    refine Xg.ops_op (by kernel_rfl) (Xg.opx_pure (.bool (decide ((o.kd : Int) = ((2 : Int))))) rfl (fun _ => by kernel_rfl) ?_)
    refine Xg.ops_op (by kernel_rfl) (Xg.opx_pure ((Value.bool (decide (o.kd = (2 : Int))))) rfl (fun _ => by kernel_rfl) ?_)
    refine Xg.ops_nil ?_
    refine Xg.at_false (t := decide ((o.kd = (2 : Int)))) (by kernel_rfl) (decide_eq_false (by omega)) ?_
    refine Xg.at_seq ?_
    refine Xg.at_region ?_
    refine Xg.ops_op (by kernel_rfl) (Xg.opx_pure (.bool (decide ((o.kd : Int) = ((3 : Int))))) rfl (fun _ => by kernel_rfl) ?_)
    refine Xg.ops_op (by kernel_rfl) (Xg.opx_pure ((Value.bool (decide (o.kd = (3 : Int))))) rfl (fun _ => by kernel_rfl) ?_)
    refine Xg.ops_nil ?_
    refine Xg.at_false (t := decide ((o.kd = (3 : Int)))) (by kernel_rfl) (decide_eq_false (by omega)) ?_
    refine Xg.at_seq ?_
    refine Xg.at_region ?_
    refine Xg.ops_op (by kernel_rfl) (Xg.opx_pure (.bool (decide ((o.kd : Int) = ((4 : Int))))) rfl (fun _ => by kernel_rfl) ?_)
    refine Xg.ops_op (by kernel_rfl) (Xg.opx_pure ((Value.bool (decide (o.kd = (4 : Int))))) rfl (fun _ => by kernel_rfl) ?_)
    refine Xg.ops_nil ?_
    refine Xg.at_false (t := decide ((o.kd = (4 : Int)))) (by kernel_rfl) (decide_eq_false (by omega)) ?_
    refine Xg.at_seq ?_
    refine Xg.at_region ?_
    refine Xg.ops_op (by kernel_rfl) (Xg.opx_pure (.bool (decide ((o.kd : Int) = ((5 : Int))))) rfl (fun _ => by kernel_rfl) ?_)
    refine Xg.ops_op (by kernel_rfl) (Xg.opx_pure ((Value.bool (decide (o.kd = (5 : Int))))) rfl (fun _ => by kernel_rfl) ?_)
    refine Xg.ops_nil ?_
    refine Xg.at_false (t := decide ((o.kd = (5 : Int)))) (by kernel_rfl) (decide_eq_false (by omega)) ?_
    refine Xg.at_seq ?_
    refine Xg.at_region ?_
    refine Xg.ops_op (by kernel_rfl) (Xg.opx_pure (.bool (decide ((o.kd : Int) = ((6 : Int))))) rfl (fun _ => by kernel_rfl) ?_)
    refine Xg.ops_op (by kernel_rfl) (Xg.opx_pure ((Value.bool (decide (o.kd = (6 : Int))))) rfl (fun _ => by kernel_rfl) ?_)
    refine Xg.ops_nil ?_
    refine Xg.at_false (t := decide ((o.kd = (6 : Int)))) (by kernel_rfl) (decide_eq_false (by omega)) ?_
    refine Xg.at_seq ?_
    refine Xg.at_region ?_
    refine Xg.ops_op (by kernel_rfl) (Xg.opx_pure (.bool (decide ((o.kd : Int) = ((7 : Int))))) rfl (fun _ => by kernel_rfl) ?_)
    refine Xg.ops_op (by kernel_rfl) (Xg.opx_pure ((Value.bool (decide (o.kd = (7 : Int))))) rfl (fun _ => by kernel_rfl) ?_)
    refine Xg.ops_nil ?_
    refine Xg.at_false (t := decide ((o.kd = (7 : Int)))) (by kernel_rfl) (decide_eq_false (by omega)) ?_
    refine Xg.at_skip ?_
    refine Xg.at_inBlock ?_
    refine Xg.at_seq ?_
    refine Xg.at_region ?_
    refine Xg.ops_op (by kernel_rfl) (Xg.opx_pure ((Value.bool true)) rfl (fun _ => by kernel_rfl) ?_)
    refine Xg.ops_nil ?_
    refine Xg.at_ret_ps (v := (Value.bool true)) [2, 3] [WL wb la Ts.length lc v2 v3 v4 v5, TH la lc Ts] Go.Proofs.Try.func19 (fun _ => by kernel_rfl) (by kernel_rfl) (by kernel_rfl) ?_
    exact ⟨by kernel_rfl, by kernel_rfl⟩
    refine Xg.any_each [11] (by kernel_rfl) rfl ⟨?_, trivial⟩
    refine Xg.comes_act rfl (by kernel_rfl) (by kernel_rfl) (Xg.opx_call1' [] [row xb2 (74 : Nat) [Value.pointer none, Value.pointer none], row xb1 (53 : Nat) [iv o.kd, iv o.p, iv o.n, Value.bool o.b], WL wb la Ts.length lc v2 v3 v4 v5, TH la lc Ts] (fun _ => by kernel_rfl) (@hpd ) (by kernel_rfl) (by kernel_rfl) (by kernel_rfl) ?_)
    refine Xg.acts (Xg.owes_cell 2 rfl (by kernel_rfl) (Xg.owes_skip (by kernel_rfl) (Xg.owes_skip (by kernel_rfl) (Xg.owes_rd 3 (Xg.reads_own (E := ((74 : Nat))) (sz := ((2 : Nat))) (n := Ts.length) (c := lc) (a := la) (vs := (recs thK Ts))) (by kernel_rfl) (Xg.owes_rd 3 (Xg.reads_own (E := ((74 : Nat))) (sz := ((2 : Nat))) (n := Ts.length) (c := lc) (a := la) (vs := (recs thK Ts))) (by kernel_rfl) Xg.owes_nil))))) ?_
    refine Xg.any_reads (.pointer (some (Addr.mk (Xg.blk la) (offA la + i * (2 : Nat)) none))) 12 3 (by kernel_rfl) rfl (by kernel_rfl) (by kernel_rfl) (by kernel_rfl) (by kernel_rfl) rfl rfl (by kernel_rfl) (Xg.rd_now 3 (Xg.reads_own (E := ((74 : Nat))) (sz := ((2 : Nat))) (n := Ts.length) (c := lc) (a := la) (vs := (recs thK Ts))) (by kernel_rfl)) (Xg.run_ix_rd (elem := 74) (kd := .i64) (e := ((↑i : Int))) 2 i (offA la + i * (2 : Nat)) (by kernel_rfl) (by kernel_rfl) (by kernel_rfl) (by kernel_rfl) rfl (by omega) (by rw [Xg.recs_len (wd := 2) (fun _ => rfl)]; omega) (by omega)) ?_
    refine Xg.any_reads (.agg (List.toArray [Value.pointer (some (Addr.mk (Ts.getD i default).fst (0 : Nat) none)), Value.pointer (some (Addr.mk (Ts.getD i default).snd (0 : Nat) none))])) 13 4 (by kernel_rfl) rfl (by kernel_rfl) (by kernel_rfl) (by kernel_rfl) (by kernel_rfl) rfl rfl (by kernel_rfl) (Xg.rd_now 3 (Xg.reads_own (E := ((74 : Nat))) (sz := ((2 : Nat))) (n := Ts.length) (c := lc) (a := la) (vs := (recs thK Ts))) (by kernel_rfl)) (Xg.run_loadn_rd (off0 := (offA la + i * (2 : Nat))) 2 (i * (2 : Nat)) [Value.pointer (some (Addr.mk (Ts.getD i default).fst (0 : Nat) none)), Value.pointer (some (Addr.mk (Ts.getD i default).snd (0 : Nat) none))] (by kernel_rfl) (by kernel_rfl) (by omega) rfl (Xg.recs_at' (wd := 2) (fun _ => rfl) default i (by omega) (by omega) (by kernel_rfl)) (by kernel_rfl)) ?_
    refine Xg.any_each [15] (by kernel_rfl) rfl ⟨?_, trivial⟩
    refine Xg.comes_act rfl (by kernel_rfl) (by kernel_rfl) (Xg.opx_storen 2 (off := 0) 0 [Value.pointer (some (Addr.mk (Ts.getD i default).fst (0 : Nat) none)), Value.pointer (some (Addr.mk (Ts.getD i default).snd (0 : Nat) none))] (by kernel_rfl) rfl (by kernel_rfl) (by kernel_rfl) rfl (by kernel_rfl) (Nat.le_of_ble_eq_true (by kernel_rfl)) ?_)
    refine Xg.acts (Xg.owes_skip (by kernel_rfl) (Xg.owes_skip (by kernel_rfl) (Xg.owes_skip (by kernel_rfl) (Xg.owes_skip (by kernel_rfl) (Xg.owes_skip (by kernel_rfl) Xg.owes_nil))))) ?_
    refine Xg.any_nil (by kernel_rfl) ?_
    refine Xg.at_seq ?_
    refine Xg.at_seq ?_
    refine Xg.at_region ?_
    refine Xg.ops_op (by kernel_rfl) (Xg.opx_pure ((pv xb1 0)) rfl (fun _ => by kernel_rfl) ?_)
    refine Xg.ops_op (by kernel_rfl) (Xg.opx_load (b := xb1) (off := ((0 : Nat))) 1 (iv o.kd) rfl (by kernel_rfl) (by kernel_rfl) (by kernel_rfl) ?_)
    refine Xg.ops_nil ?_
    refine Xg.at_block ?_
    refine Xg.at_seq ?_
    refine Xg.at_region ?_
    refine Xg.ops_op (by kernel_rfl) (Xg.opx_pure (.bool (decide ((o.kd : Int) = ((2 : Int))))) rfl (fun _ => by kernel_rfl) ?_)
    refine Xg.ops_op (by kernel_rfl) (Xg.opx_pure ((Value.bool (decide (o.kd = (2 : Int))))) rfl (fun _ => by kernel_rfl) ?_)
    refine Xg.ops_nil ?_
    refine Xg.at_false (t := decide ((o.kd = (2 : Int)))) (by kernel_rfl) (decide_eq_false (by omega)) ?_
    refine Xg.at_seq ?_
    refine Xg.at_region ?_
    refine Xg.ops_op (by kernel_rfl) (Xg.opx_pure (.bool (decide ((o.kd : Int) = ((3 : Int))))) rfl (fun _ => by kernel_rfl) ?_)
    refine Xg.ops_op (by kernel_rfl) (Xg.opx_pure ((Value.bool (decide (o.kd = (3 : Int))))) rfl (fun _ => by kernel_rfl) ?_)
    refine Xg.ops_nil ?_
    refine Xg.at_false (t := decide ((o.kd = (3 : Int)))) (by kernel_rfl) (decide_eq_false (by omega)) ?_
    refine Xg.at_seq ?_
    refine Xg.at_region ?_
    refine Xg.ops_op (by kernel_rfl) (Xg.opx_pure (.bool (decide ((o.kd : Int) = ((4 : Int))))) rfl (fun _ => by kernel_rfl) ?_)
    refine Xg.ops_op (by kernel_rfl) (Xg.opx_pure ((Value.bool (decide (o.kd = (4 : Int))))) rfl (fun _ => by kernel_rfl) ?_)
    refine Xg.ops_nil ?_
    refine Xg.at_false (t := decide ((o.kd = (4 : Int)))) (by kernel_rfl) (decide_eq_false (by omega)) ?_
    refine Xg.at_seq ?_
    refine Xg.at_region ?_
    refine Xg.ops_op (by kernel_rfl) (Xg.opx_pure (.bool (decide ((o.kd : Int) = ((5 : Int))))) rfl (fun _ => by kernel_rfl) ?_)
    refine Xg.ops_op (by kernel_rfl) (Xg.opx_pure ((Value.bool (decide (o.kd = (5 : Int))))) rfl (fun _ => by kernel_rfl) ?_)
    refine Xg.ops_nil ?_
    refine Xg.at_false (t := decide ((o.kd = (5 : Int)))) (by kernel_rfl) (decide_eq_false (by omega)) ?_
    refine Xg.at_seq ?_
    refine Xg.at_region ?_
    refine Xg.ops_op (by kernel_rfl) (Xg.opx_pure (.bool (decide ((o.kd : Int) = ((6 : Int))))) rfl (fun _ => by kernel_rfl) ?_)
    refine Xg.ops_op (by kernel_rfl) (Xg.opx_pure ((Value.bool (decide (o.kd = (6 : Int))))) rfl (fun _ => by kernel_rfl) ?_)
    refine Xg.ops_nil ?_
    refine Xg.at_false (t := decide ((o.kd = (6 : Int)))) (by kernel_rfl) (decide_eq_false (by omega)) ?_
    refine Xg.at_seq ?_
    refine Xg.at_region ?_
    refine Xg.ops_op (by kernel_rfl) (Xg.opx_pure (.bool (decide ((o.kd : Int) = ((7 : Int))))) rfl (fun _ => by kernel_rfl) ?_)
    refine Xg.ops_op (by kernel_rfl) (Xg.opx_pure ((Value.bool (decide (o.kd = (7 : Int))))) rfl (fun _ => by kernel_rfl) ?_)
    refine Xg.ops_nil ?_
    refine Xg.at_false (t := decide ((o.kd = (7 : Int)))) (by kernel_rfl) (decide_eq_false (by omega)) ?_
    refine Xg.at_skip ?_
    refine Xg.at_inBlock ?_
    refine Xg.at_seq ?_
    refine Xg.at_region ?_
    refine Xg.ops_op (by kernel_rfl) (Xg.opx_pure ((Value.bool true)) rfl (fun _ => by kernel_rfl) ?_)
    refine Xg.ops_nil ?_
    refine Xg.at_ret_ps (v := (Value.bool true)) [2, 3] [WL wb la Ts.length lc v2 v3 v4 v5, TH la lc Ts] Go.Proofs.Try.func19 (fun _ => by kernel_rfl) (by kernel_rfl) (by kernel_rfl) ?_
    exact ⟨by kernel_rfl, by kernel_rfl⟩)
end
end Go.Proofs.Ytijjficnhpokdaa

/- The sched law's World: step: Round. -/
namespace Go.Proofs.Ytijjficnhpokdaa
open Go.Sl Go.Xg
set_option linter.unusedVariables false
set_option linter.unusedSimpArgs false
set_option linter.unusedSectionVars false
set_option linter.unnecessarySimpa false
set_option maxHeartbeats 4000000
set_option maxRecDepth 100000

/-- Round: the numbers. -/
theorem roundF_d (p : Nat) (r : List (Int × Bool)) (s : List Int) (h64 : r.length ≤ 64) : Does Try.prog 16 [.pointer (some ⟨p, 0, none⟩)] [SchedP p r s]
    (RetE (fun x : Option Addr => True) (fun x => .slice x (r.map (·.1)).length (r.map (·.1)).length) (fun x => [SchedP p r s, ints 3 .i64 x (r.map (·.1)).length (r.map (·.1))])) := by
  have e : (r.map (·.1)).length = r.length := List.length_map ..
  obtain ⟨l, hl⟩ : ∃ l, r.map (·.1) = l := ⟨_, rfl⟩
  rw [hl] at e ⊢
  refine closedE (V := fun x : Option Addr => .slice x l.length l.length) (Q := fun x : Option Addr => [ints 3 .i64 x l.length l]) fun ra rc sa sc => ?_
  (focus
    refine Xg.spec_of Go.Proofs.Try.func16 rfl Go.Proofs.Try.ntmps16 fun g F => ?_)
  (focus
    refine Xg.at_seq ?_
    refine Xg.at_region ?_
    refine Xg.ops_op (by kernel_rfl) (Xg.opx_pure ((Value.slice none (0 : Nat) (0 : Nat))) rfl (fun _ => by kernel_rfl) ?_)
    refine Xg.ops_nil ?_
    refine Xg.at_seq ?_
    refine Xg.at_region ?_
    refine Xg.ops_op (by kernel_rfl) (Xg.opx_pure ((pv p 0)) rfl (fun _ => by kernel_rfl) ?_)
    refine Xg.ops_op (by kernel_rfl) (Xg.opx_pure ((pv p 0)) rfl (fun _ => by kernel_rfl) ?_)
    refine Xg.ops_op (by kernel_rfl) (Xg.opx_pure ((pv p 0)) rfl (fun _ => by kernel_rfl) ?_)
    refine Xg.ops_op (by kernel_rfl) (Xg.opx_load (b := p) (off := ((0 : Nat))) 0 (Value.slice ra r.length rc) rfl (by kernel_rfl) (by kernel_rfl) (by kernel_rfl) ?_)
    refine Xg.ops_op (by kernel_rfl) (Xg.opx_pure ((iv (↑r.length : Int))) rfl (fun _ => by kernel_rfl) ?_)
    refine Xg.ops_op (by kernel_rfl) (Xg.opx_make_hid (elem := 3) (kd := .i64) (by_ := 8) (k1 := .i64) (k2 := .i64) (n := ((↑r.length : Int))) (c := ((↑r.length : Int))) r.length r.length (by kernel_rfl) (by kernel_rfl) (by kernel_rfl) (by kernel_rfl) rfl rfl (by omega) (by omega) fun xa1 xs1 xh1 xl1 xz1 => ?_)
    refine Xg.ops_op (by kernel_rfl) (Xg.opx_pure ((Value.slice xa1 xs1.length r.length)) rfl (fun _ => by kernel_rfl) ?_)
    refine Xg.ops_nil ?_
    refine Xg.at_seq ?_
    refine Xg.at_seq ?_
    refine Xg.at_region ?_
    refine Xg.ops_op (by kernel_rfl) (Xg.opx_pure ((pv p 0)) rfl (fun _ => by kernel_rfl) ?_)
    refine Xg.ops_op (by kernel_rfl) (Xg.opx_pure ((pv p 0)) rfl (fun _ => by kernel_rfl) ?_)
    refine Xg.ops_op (by kernel_rfl) (Xg.opx_pure ((pv p 0)) rfl (fun _ => by kernel_rfl) ?_)
    refine Xg.ops_op (by kernel_rfl) (Xg.opx_load (b := p) (off := ((0 : Nat))) 1 (Value.slice ra r.length rc) rfl (by kernel_rfl) (by kernel_rfl) (by kernel_rfl) ?_)
    refine Xg.ops_op (by kernel_rfl) (Xg.opx_pure ((iv (↑r.length : Int))) rfl (fun _ => by kernel_rfl) ?_)
    refine Xg.ops_op (by kernel_rfl) (Xg.opx_pure ((iv 0)) rfl (fun _ => by kernel_rfl) ?_)
    refine Xg.ops_nil ?_
    refine Xg.at_block ?_)
  have hx1 : xs1.length = r.length := by assumption
  (focus
    refine Xg.at_keep [1, 2, 3, 0] (by kernel_rfl) ?_
    refine Xg.at_rounds_inv (α := (Nat × List Int) × (Nat → Value)) (fun x => ((fun x => x.1 ≤ r.length ∧ x.2.length = r.length ∧ ∀ j, j < x.1 → x.2.getD j 0 = l.getD j 0) : (Nat × List Int) → Prop) x.1) (fun x => ((fun x => r.length - x.1) : (Nat × List Int) → Nat) x.1) (fun x => Xg.headT [pv p 0, tu, Value.slice none (0 : Nat) (0 : Nat), Value.slice xa1 xs1.length r.length, tu, tu, pv p 0, pv p 0, pv p 0, Value.slice ra r.length rc, iv (↑r.length : Int), Value.slice xa1 xs1.length r.length, pv p 0, pv p 0, pv p 0, Value.slice ra r.length rc, iv (↑r.length : Int), iv 0, tu, tu, tu, tu, tu, tu, tu, tu, tu, tu, tu] [4, 5, 18, 19, 20, 21, 22, 23, 24, 25, 26, 27] (((fun x => [(17, .int .i64 (x.1 : Nat))]) : (Nat × List Int) → List (Nat × Go.Value)) x.1) x.2) (fun x => ((fun x => [HdP p ra r.length rc sa s.length sc, RP ra rc r, SP sa sc s, ownS 3 1 (.slice xa1 xs1.length r.length) xs1.length (x.2.map (Value.int .i64))]) : (Nat × List Int) → List Go.Sl.HP) x.1) (((0, xs1)), fun j9 => ([pv p 0, tu, Value.slice none (0 : Nat) (0 : Nat), Value.slice xa1 xs1.length r.length, tu, tu, pv p 0, pv p 0, pv p 0, Value.slice ra r.length rc, iv (↑r.length : Int), Value.slice xa1 xs1.length r.length, pv p 0, pv p 0, pv p 0, Value.slice ra r.length rc, iv (↑r.length : Int), iv 0, tu, tu, tu, tu, tu, tu, tu, tu, tu, tu, tu] : List Value).getD j9 undef) (by kernel_rfl) (by kernel_rfl) ?_ ?_)
  · exact ⟨Nat.zero_le _, hx1, fun j hj => absurd hj (Nat.not_lt_zero _)⟩
  rintro ⟨⟨i, xs⟩, J⟩ ⟨h1, h2, h3⟩ ih
  dsimp only at h1 h2 h3
  (focus
    refine Xg.At.same (T' := [pv p 0, tu, Value.slice none (0 : Nat) (0 : Nat), Value.slice xa1 xs1.length r.length, J 4, J 5, pv p 0, pv p 0, pv p 0, Value.slice ra r.length rc, iv (↑r.length : Int), Value.slice xa1 xs1.length r.length, pv p 0, pv p 0, pv p 0, Value.slice ra r.length rc, iv (↑r.length : Int), iv (↑i : Int), J 18, J 19, J 20, J 21, J 22, J 23, J 24, J 25, J 26, J 27, tu]) (L' := [HdP p ra r.length rc sa s.length sc, RP ra rc r, SP sa sc s, ownS (3 : TypeId) (1 : Nat) (Value.slice xa1 xs1.length r.length) xs1.length (List.map (Value.int IntKind.i64) ((i, xs), J).fst.snd)]) (by kernel_rfl) rfl ?_)
  by_cases hlt : i < r.length
  · refine Xg.at_off 3 rfl (by omega) fun hoff => ?_
    (focus
      refine Xg.at_seq ?_
      refine Xg.at_region ?_
      refine Xg.ops_op (by kernel_rfl) (Xg.opx_pure (.bool (decide ((((↑i : Int)) : Int) < ((↑r.length : Int))))) rfl (fun _ => by kernel_rfl) ?_)
      refine Xg.ops_nil ?_
      refine Xg.at_seq ?_
      refine Xg.at_true (t := decide (((↑i : Int) < (↑r.length : Int)))) (by kernel_rfl) (decide_eq_true (by omega)) ?_
      refine Xg.at_skip ?_
      refine Xg.at_seq ?_
      refine Xg.at_block ?_
      refine Xg.at_seq ?_
      refine Xg.at_region ?_
      refine Xg.ops_op (by kernel_rfl) (Xg.opx_pure ((iv (↑i : Int))) rfl (fun _ => by kernel_rfl) ?_)
      refine Xg.ops_op (by kernel_rfl) (Xg.opx_ix_own (elem := 65) (kd := .i64) (e := ((↑i : Int))) 1 2 i (i * (2 : Nat)) rfl (by kernel_rfl) (by kernel_rfl) (by kernel_rfl) (by kernel_rfl) rfl (by omega) (by omega) ?_)
      refine Xg.ops_op (by kernel_rfl) (Xg.opx_loadn_own (a := ra) (off := (i * (2 : Nat))) 2 1 [iv (r.getD i default).fst, Value.bool (r.getD i default).snd] (by kernel_rfl) rfl (by kernel_rfl) rfl (Xg.recs_at' (wd := 2) (fun _ => rfl) default i (by omega) (by omega) (by kernel_rfl)) (by kernel_rfl) ?_)
      refine Xg.ops_op (by kernel_rfl) (Xg.opx_new 2 [iv 0, Value.bool false] (by kernel_rfl) (by kernel_rfl) fun xb1 => ?_)
      refine Xg.ops_op (by kernel_rfl) (Xg.opx_pure ((iv (↑i : Int))) rfl (fun _ => by kernel_rfl) ?_)
      refine Xg.ops_op (by kernel_rfl) (Xg.opx_storen 2 (off := 0) 0 [iv (r.getD i default).fst, Value.bool (r.getD i default).snd] (by kernel_rfl) rfl (by kernel_rfl) (by kernel_rfl) rfl (by kernel_rfl) (Nat.le_of_ble_eq_true (by kernel_rfl)) ?_)
      refine Xg.ops_nil ?_
      refine Xg.at_region ?_
      refine Xg.ops_op (by kernel_rfl) (Xg.opx_pure ((Value.slice xa1 xs1.length r.length)) rfl (fun _ => by kernel_rfl) ?_)
      refine Xg.ops_op (by kernel_rfl) (Xg.opx_pure ((iv (↑i : Int))) rfl (fun _ => by kernel_rfl) ?_)
      refine Xg.ops_op (by kernel_rfl) (Xg.opx_pure ((pv xb1 0)) rfl (fun _ => by kernel_rfl) ?_)
      refine Xg.ops_op (by kernel_rfl) (Xg.opx_load (b := xb1) (off := ((0 : Nat))) 0 (iv (r.getD i default).fst) rfl (by kernel_rfl) (by kernel_rfl) (by kernel_rfl) ?_)
      refine Xg.ops_op (by kernel_rfl) (Xg.opx_ix_own (elem := 3) (kd := .i64) (e := ((↑i : Int))) 4 1 i i rfl (by kernel_rfl) (by kernel_rfl) (by kernel_rfl) (by kernel_rfl) rfl (by omega) (by omega) ?_)
      refine Xg.ops_op (by kernel_rfl) (Xg.opx_store_own_i (a := xa1) (off := i) (kd := .i64) (xs := (((i, xs), J).fst.snd)) (e := ((r.getD i default).fst)) 4 (by kernel_rfl) rfl (by kernel_rfl) (by kernel_rfl) (by first | omega | (simp only [List.length_set]; omega)) ?_)
      refine Xg.ops_nil ?_
      refine Xg.at_inBlock ?_
      refine Xg.at_region ?_
      refine Xg.ops_op (by kernel_rfl) (Xg.opx_int .i64 (IntKind.wrap .i64 (((↑i : Int) + (1 : Int)))) rfl (fun _ => by kernel_rfl) (Xg.wrap_i64_in (by omega)) ?_)
      refine Xg.ops_op (by kernel_rfl) (Xg.opx_pure ((iv ((↑i : Int) + (1 : Int)))) rfl (fun _ => by kernel_rfl) ?_)
      refine Xg.ops_nil ?_
      refine Xg.at_inLoop ?_)
    (focus
      refine Xg.at_keep [1, 2, 3, 4] (by kernel_rfl) ?_
      refine Xs.same ?_ (fun J9 => ih (((i + 1, xs.set i (r.getD i default).1)), J9) ?_ ?_) (by kernel_rfl))
    · rfl
    · refine ⟨by dsimp only; omega, by dsimp only; rw [List.length_set]; exact h2, fun j hj => ?_⟩
      dsimp only at hj ⊢
      by_cases hj' : j = i
      · subst hj'
        rw [← hl]
        simp [List.getD, hlt, h2]
      · rw [← h3 j (by omega)]
        simp [List.getD, List.getElem?_set, Ne.symm hj']
    · dsimp only; omega
  · have hx : xs = l := by
      apply List.ext_getElem (by omega)
      intro j g1 g2
      have := h3 j (by omega)
      simpa [List.getD, g1, g2] using this
    subst hx
    have hxl : xs1.length = xs.length := by omega
    rw [hxl, ← e]
    (focus
      refine Xg.at_seq ?_
      refine Xg.at_region ?_
      refine Xg.ops_op (by kernel_rfl) (Xg.opx_pure (.bool (decide ((((↑i : Int)) : Int) < ((↑xs.length : Int))))) rfl (fun _ => by kernel_rfl) ?_)
      refine Xg.ops_nil ?_
      refine Xg.at_seq ?_
      refine Xg.at_false (t := decide (((↑i : Int) < (↑xs.length : Int)))) (by kernel_rfl) (decide_eq_false (by omega)) ?_
      refine Xg.at_exit rfl ?_
      refine Xg.at_seq ?_
      refine Xg.at_region ?_
      refine Xg.ops_op (by kernel_rfl) (Xg.opx_pure ((Value.slice xa1 xs.length xs.length)) rfl (fun _ => by kernel_rfl) ?_)
      refine Xg.ops_op (by kernel_rfl) (Xg.opx_pure ((Value.slice xa1 xs.length xs.length)) rfl (fun _ => by kernel_rfl) ?_)
      refine Xg.ops_nil ?_
      refine Xg.at_ret_ps (v := (Value.slice xa1 xs.length xs.length)) [0, 1, 2, 3] [HdP p ra xs.length rc sa s.length sc, RP ra rc r, SP sa sc s, ownS (3 : TypeId) (1 : Nat) (Value.slice xa1 xs.length xs.length) xs.length (List.map (Value.int IntKind.i64) xs)] Go.Proofs.Try.func16 (fun _ => by kernel_rfl) (by kernel_rfl) (by kernel_rfl) ?_
      refine ⟨(((ra, rc), xa1)), trivial, by kernel_rfl, by kernel_rfl⟩)

abbrev WL2 (wb : Nat) (la : Option Addr) (ln lc : Nat) (fa : Option Addr) (fn fc : Nat) (wa : Option Addr) (wn wc : Nat) (v4 v5 : Value) : HP := row wb 50 [.slice la ln lc, .slice fa fn fc, .slice wa wn wc, v4, v5]
theorem step_round (wb : Nat) (la : Option Addr) (lc : Nat) (fa wa : Option Addr) (fc wc : Nat) (v4 v5 : Value) (Ts : List (Nat × Nat)) (o : Sp) (hp : i64ok o.p) (hT : 0 < Ts.length) (hT2 : Ts.length ≤ 100000000) (i : Nat) (hi' : pickN o.p Ts.length = i) (hil : i < Ts.length) (r : List (Int × Bool)) (s : List Int) (h64 : r.length ≤ 64)
    (Fr : List (Option Addr × List Int)) (Wa : List (Option Addr × Nat × List Int)) (hf : Fr.length ≤ 100) (hw : Wa.length ≤ 100) (hk : o.kd = 7) : Does Try.prog 19 [.pointer (some ⟨wb, 0, none⟩), spV o] [WL2 wb la Ts.length lc fa Fr.length fc wa Wa.length wc v4 v5, TH la lc Ts, FH fa fc Fr, IH wa wc Wa, SchedP (Ts.getD i default).1 r s, RefP (Ts.getD i default).2 r s]
    (RetE (fun x : (Option Addr × Nat) × (Option Addr × Nat) × (Option Addr × Option Addr) × (Option Addr × Nat) × (Option Addr × Nat) => True) (fun x => .bool true) (fun x => [WL2 wb la Ts.length lc x.1.1 (Fr ++ [(x.2.2.1.1, r.map (·.1))] ++ [(x.2.2.1.2, r.map (·.1))]).length x.1.2 x.2.1.1 (Wa ++ [(x.2.2.2.1.1, x.2.2.2.1.2, r.map (·.1))] ++ [(x.2.2.2.2.1, x.2.2.2.2.2, r.map (·.1))]).length x.2.1.2 v4 v5, TH la lc Ts,
      FH x.1.1 x.1.2 (Fr ++ [(x.2.2.1.1, r.map (·.1))] ++ [(x.2.2.1.2, r.map (·.1))]), IH x.2.1.1 x.2.1.2 (Wa ++ [(x.2.2.2.1.1, x.2.2.2.1.2, r.map (·.1))] ++ [(x.2.2.2.2.1, x.2.2.2.2.2, r.map (·.1))]), SchedP (Ts.getD i default).1 r s, RefP (Ts.getD i default).2 r s,
      SP x.2.2.1.1 (r.map (·.1)).length (r.map (·.1)), SP x.2.2.1.2 (r.map (·.1)).length (r.map (·.1)), SP x.2.2.2.1.1 x.2.2.2.1.2 (r.map (·.1)), SP x.2.2.2.2.1 x.2.2.2.2.2 (r.map (·.1))])) := by
  have hpd := pick_r o.p Ts.length hp hT
  rw [hi'] at hpd
  have hx := roundF_d (Ts.getD i default).1 r s h64
  have hy := rround_d (Ts.getD i default).2 r s h64
  have hll : (r.map (·.1)).length ≤ 64 := by rw [List.length_map]; exact h64
  obtain ⟨l, hl⟩ : ∃ l, r.map (·.1) = l := ⟨_, rfl⟩
  rw [hl] at hx hy hll ⊢
  have hs := fun a b c d => same_d a b c d l (by omega)
  have ht1 := fun fa wa fc wc a => take_d wb (.slice la Ts.length lc) v4 v5 fa wa fc wc Fr Wa (by omega) (by omega) a l (by omega)
  have ht2 := fun fa wa fc wc a b b1 b2 => take_d wb (.slice la Ts.length lc) v4 v5 fa wa fc wc (Fr ++ [(b, l)]) (Wa ++ [(b1, b2, l)]) (by simp; omega) (by simp; omega) a l (by omega)
  (focus
    refine Xg.spec_of Go.Proofs.Try.func19 rfl Go.Proofs.Try.ntmps19 fun g F => ?_)
  (focus
    refine Xg.at_seq ?_
    refine Xg.at_region ?_
    refine Xg.ops_op (by kernel_rfl) (Xg.opx_box (v := (Value.agg #[iv o.kd, iv o.p, iv o.n, Value.bool o.b])) [iv o.kd, iv o.p, iv o.n, Value.bool o.b] (by kernel_rfl) (by kernel_rfl) fun xb1 => ?_)
    refine Xg.ops_op (by kernel_rfl) (Xg.opx_pure ((Value.bool false)) rfl (fun _ => by kernel_rfl) ?_)
    refine Xg.ops_nil ?_
    refine Xg.at_seq ?_
    refine Xg.at_seq ?_
    refine Xg.at_region ?_
    refine Xg.ops_op (by kernel_rfl) (Xg.opx_pure ((pv xb1 0)) rfl (fun _ => by kernel_rfl) ?_)
    refine Xg.ops_op (by kernel_rfl) (Xg.opx_load (b := xb1) (off := ((0 : Nat))) 0 (iv o.kd) rfl (by kernel_rfl) (by kernel_rfl) (by kernel_rfl) ?_)
    refine Xg.ops_op (by kernel_rfl) (Xg.opx_pure (.bool (decide ((o.kd : Int) = ((1 : Int))))) rfl (fun _ => by kernel_rfl) ?_)
    refine Xg.ops_nil ?_
    refine Xg.at_false (t := decide ((o.kd = (1 : Int)))) (by kernel_rfl) (decide_eq_false (by omega)) ?_
    refine Xg.at_skip ?_
    refine Xg.at_seq ?_
    refine Xg.at_seq ?_
    refine Xg.at_region ?_
    refine Xg.ops_op (by kernel_rfl) (Xg.opx_pure ((pv wb 0)) rfl (fun _ => by kernel_rfl) ?_)
    refine Xg.ops_op (by kernel_rfl) (Xg.opx_pure ((pv wb 0)) rfl (fun _ => by kernel_rfl) ?_)
    refine Xg.ops_op (by kernel_rfl) (Xg.opx_pure ((pv wb 0)) rfl (fun _ => by kernel_rfl) ?_)
    refine Xg.ops_op (by kernel_rfl) (Xg.opx_load (b := wb) (off := ((0 : Nat))) 1 (Value.slice la Ts.length lc) rfl (by kernel_rfl) (by kernel_rfl) (by kernel_rfl) ?_)
    refine Xg.ops_op (by kernel_rfl) (Xg.opx_pure ((iv (↑Ts.length : Int))) rfl (fun _ => by kernel_rfl) ?_)
    refine Xg.ops_op (by kernel_rfl) (Xg.opx_pure (.bool (decide ((((↑Ts.length : Int)) : Int) = ((0 : Int))))) rfl (fun _ => by kernel_rfl) ?_)
    refine Xg.ops_nil ?_
    refine Xg.at_false (t := decide (((↑Ts.length : Int) = (0 : Int)))) (by kernel_rfl) (decide_eq_false (by omega)) ?_
    refine Xg.at_skip ?_
    refine Xg.at_seq ?_
    refine Xg.at_draw [11, 14, 15] [(3, [0, 1, 2, 3, 4, 5, 6, 7, 8, 9, 10, 11, 14], Xg.CellIs (wb) (((0 : Nat))) ((Value.slice la Ts.length lc))), (5, [0, 1, 2, 3, 4, 5, 6, 7, 8, 9, 10, 14], Xg.CellIs (xb1) (((1 : Nat))) ((iv o.p))), (9, [0, 1, 2, 3, 4, 5, 6, 7, 8, 9, 14], Xg.CellIs (wb) (((0 : Nat))) ((Value.slice la Ts.length lc))), (12, [0, 1, 2, 3, 4, 5, 6, 7, 8, 9, 10, 11, 12, 14], (RdIs (2 : Nat) (Value.slice la Ts.length lc) Ts.length (recs thK Ts))), (13, [0, 1, 2, 3, 4, 5, 6, 7, 8, 9, 10, 11, 12, 13, 14], (RdIs (2 : Nat) (Value.slice la Ts.length lc) Ts.length (recs thK Ts)))] (by kernel_rfl) ?_
    refine Xg.any_pure ((pv wb 0)) 0 (by kernel_rfl) rfl (by kernel_rfl) (by kernel_rfl) (by kernel_rfl) (by kernel_rfl) rfl (fun _ => by kernel_rfl) ?_
    refine Xg.any_pure ((pv wb 0)) 1 (by kernel_rfl) rfl (by kernel_rfl) (by kernel_rfl) (by kernel_rfl) (by kernel_rfl) rfl (fun _ => by kernel_rfl) ?_
    refine Xg.any_pure ((pv wb 0)) 2 (by kernel_rfl) rfl (by kernel_rfl) (by kernel_rfl) (by kernel_rfl) (by kernel_rfl) rfl (fun _ => by kernel_rfl) ?_
    refine Xg.any_reads (Value.slice la Ts.length lc) 3 0 (by kernel_rfl) rfl (by kernel_rfl) (by kernel_rfl) (by kernel_rfl) (by kernel_rfl) rfl rfl (by kernel_rfl) (Xg.cell_now (b := wb) (off := ((0 : Nat))) 1 rfl (by kernel_rfl)) (fun _ h => Xg.run_load (by kernel_rfl) (by kernel_rfl) h) ?_
    refine Xg.any_pure ((pv xb1 1)) 4 (by kernel_rfl) rfl (by kernel_rfl) (by kernel_rfl) (by kernel_rfl) (by kernel_rfl) rfl (fun _ => by kernel_rfl) ?_
    refine Xg.any_reads (iv o.p) 5 1 (by kernel_rfl) rfl (by kernel_rfl) (by kernel_rfl) (by kernel_rfl) (by kernel_rfl) rfl rfl (by kernel_rfl) (Xg.cell_now (b := xb1) (off := ((1 : Nat))) 0 rfl (by kernel_rfl)) (fun _ h => Xg.run_load (by kernel_rfl) (by kernel_rfl) h) ?_
    refine Xg.any_pure ((pv wb 0)) 6 (by kernel_rfl) rfl (by kernel_rfl) (by kernel_rfl) (by kernel_rfl) (by kernel_rfl) rfl (fun _ => by kernel_rfl) ?_
    refine Xg.any_pure ((pv wb 0)) 7 (by kernel_rfl) rfl (by kernel_rfl) (by kernel_rfl) (by kernel_rfl) (by kernel_rfl) rfl (fun _ => by kernel_rfl) ?_
    refine Xg.any_pure ((pv wb 0)) 8 (by kernel_rfl) rfl (by kernel_rfl) (by kernel_rfl) (by kernel_rfl) (by kernel_rfl) rfl (fun _ => by kernel_rfl) ?_
    refine Xg.any_reads (Value.slice la Ts.length lc) 9 2 (by kernel_rfl) rfl (by kernel_rfl) (by kernel_rfl) (by kernel_rfl) (by kernel_rfl) rfl rfl (by kernel_rfl) (Xg.cell_now (b := wb) (off := ((0 : Nat))) 1 rfl (by kernel_rfl)) (fun _ h => Xg.run_load (by kernel_rfl) (by kernel_rfl) h) ?_
    refine Xg.any_pure ((iv (↑Ts.length : Int))) 10 (by kernel_rfl) rfl (by kernel_rfl) (by kernel_rfl) (by kernel_rfl) (by kernel_rfl) rfl (fun _ => by kernel_rfl) ?_
    refine Xg.any_each [11, 14] (by kernel_rfl) rfl ⟨?_, ?_, trivial⟩
    refine Xg.comes_act rfl (by kernel_rfl) (by kernel_rfl) (Xg.opx_call1' [] [row xb1 (53 : Nat) [iv o.kd, iv o.p, iv o.n, Value.bool o.b], WL2 wb la Ts.length lc fa Fr.length fc wa Wa.length wc v4 v5, TH la lc Ts, FH fa fc Fr, IH wa wc Wa, SchedP (Ts.getD i default).fst r s, RefP (Ts.getD i default).snd r s] (fun _ => by kernel_rfl) (@hpd ) (by kernel_rfl) (by kernel_rfl) (by kernel_rfl) ?_)
    refine Xg.acts (Xg.owes_cell 1 rfl (by kernel_rfl) (Xg.owes_skip (by kernel_rfl) (Xg.owes_skip (by kernel_rfl) (Xg.owes_rd 2 (Xg.reads_own (E := ((74 : Nat))) (sz := ((2 : Nat))) (n := Ts.length) (c := lc) (a := la) (vs := (recs thK Ts))) (by kernel_rfl) (Xg.owes_rd 2 (Xg.reads_own (E := ((74 : Nat))) (sz := ((2 : Nat))) (n := Ts.length) (c := lc) (a := la) (vs := (recs thK Ts))) (by kernel_rfl) Xg.owes_nil))))) ?_
    rotate_left
    refine Xg.comes_act rfl (by kernel_rfl) (by kernel_rfl) (Xg.opx_new 2 [Value.pointer none, Value.pointer none] (by kernel_rfl) (by kernel_rfl) fun xb2 => ?_)
    refine Xg.acts (Xg.owes_cell 2 rfl (by kernel_rfl) (Xg.owes_cell 1 rfl (by kernel_rfl) (Xg.owes_cell 2 rfl (by kernel_rfl) (Xg.owes_rd 3 (Xg.reads_own (E := ((74 : Nat))) (sz := ((2 : Nat))) (n := Ts.length) (c := lc) (a := la) (vs := (recs thK Ts))) (by kernel_rfl) (Xg.owes_rd 3 (Xg.reads_own (E := ((74 : Nat))) (sz := ((2 : Nat))) (n := Ts.length) (c := lc) (a := la) (vs := (recs thK Ts))) (by kernel_rfl) Xg.owes_nil))))) ?_
    rotate_left
    refine Xg.any_reads (.pointer (some (Addr.mk (Xg.blk la) (offA la + i * (2 : Nat)) none))) 12 3 (by kernel_rfl) rfl (by kernel_rfl) (by kernel_rfl) (by kernel_rfl) (by kernel_rfl) rfl rfl (by kernel_rfl) (Xg.rd_now 2 (Xg.reads_own (E := ((74 : Nat))) (sz := ((2 : Nat))) (n := Ts.length) (c := lc) (a := la) (vs := (recs thK Ts))) (by kernel_rfl)) (Xg.run_ix_rd (elem := 74) (kd := .i64) (e := ((↑i : Int))) 2 i (offA la + i * (2 : Nat)) (by kernel_rfl) (by kernel_rfl) (by kernel_rfl) (by kernel_rfl) rfl (by omega) (by rw [Xg.recs_len (wd := 2) (fun _ => rfl)]; omega) (by omega)) ?_
    refine Xg.any_reads (.agg (List.toArray [Value.pointer (some (Addr.mk (Ts.getD i default).fst (0 : Nat) none)), Value.pointer (some (Addr.mk (Ts.getD i default).snd (0 : Nat) none))])) 13 4 (by kernel_rfl) rfl (by kernel_rfl) (by kernel_rfl) (by kernel_rfl) (by kernel_rfl) rfl rfl (by kernel_rfl) (Xg.rd_now 2 (Xg.reads_own (E := ((74 : Nat))) (sz := ((2 : Nat))) (n := Ts.length) (c := lc) (a := la) (vs := (recs thK Ts))) (by kernel_rfl)) (Xg.run_loadn_rd (off0 := (offA la + i * (2 : Nat))) 2 (i * (2 : Nat)) [Value.pointer (some (Addr.mk (Ts.getD i default).fst (0 : Nat) none)), Value.pointer (some (Addr.mk (Ts.getD i default).snd (0 : Nat) none))] (by kernel_rfl) (by kernel_rfl) (by omega) rfl (Xg.recs_at' (wd := 2) (fun _ => rfl) default i (by omega) (by omega) (by kernel_rfl)) (by kernel_rfl)) ?_
    refine Xg.any_each [14] (by kernel_rfl) rfl ⟨?_, trivial⟩
    refine Xg.comes_act rfl (by kernel_rfl) (by kernel_rfl) (Xg.opx_new 2 [Value.pointer none, Value.pointer none] (by kernel_rfl) (by kernel_rfl) fun xb2 => ?_)
    refine Xg.acts (Xg.owes_cell 2 rfl (by kernel_rfl) (Xg.owes_cell 1 rfl (by kernel_rfl) (Xg.owes_cell 2 rfl (by kernel_rfl) (Xg.owes_rd 3 (Xg.reads_own (E := ((74 : Nat))) (sz := ((2 : Nat))) (n := Ts.length) (c := lc) (a := la) (vs := (recs thK Ts))) (by kernel_rfl) (Xg.owes_rd 3 (Xg.reads_own (E := ((74 : Nat))) (sz := ((2 : Nat))) (n := Ts.length) (c := lc) (a := la) (vs := (recs thK Ts))) (by kernel_rfl) Xg.owes_nil))))) ?_
    refine Xg.any_each [15] (by kernel_rfl) rfl ⟨?_, trivial⟩
    refine Xg.comes_act rfl (by kernel_rfl) (by kernel_rfl) (Xg.opx_storen 2 (off := 0) 0 [Value.pointer (some (Addr.mk (Ts.getD i default).fst (0 : Nat) none)), Value.pointer (some (Addr.mk (Ts.getD i default).snd (0 : Nat) none))] (by kernel_rfl) rfl (by kernel_rfl) (by kernel_rfl) rfl (by kernel_rfl) (Nat.le_of_ble_eq_true (by kernel_rfl)) ?_)
    refine Xg.acts (Xg.owes_skip (by kernel_rfl) (Xg.owes_skip (by kernel_rfl) (Xg.owes_skip (by kernel_rfl) (Xg.owes_skip (by kernel_rfl) (Xg.owes_skip (by kernel_rfl) Xg.owes_nil))))) ?_
    refine Xg.any_nil (by kernel_rfl) ?_
    refine Xg.at_seq ?_
    refine Xg.at_seq ?_
    refine Xg.at_region ?_
    refine Xg.ops_op (by kernel_rfl) (Xg.opx_pure ((pv xb1 0)) rfl (fun _ => by kernel_rfl) ?_)
    refine Xg.ops_op (by kernel_rfl) (Xg.opx_load (b := xb1) (off := ((0 : Nat))) 1 (iv o.kd) rfl (by kernel_rfl) (by kernel_rfl) (by kernel_rfl) ?_)
    refine Xg.ops_nil ?_
    refine Xg.at_block ?_
    refine Xg.at_seq ?_
    refine Xg.at_region ?_
    refine Xg.ops_op (by kernel_rfl) (Xg.opx_pure (.bool (decide ((o.kd : Int) = ((2 : Int))))) rfl (fun _ => by kernel_rfl) ?_)
    refine Xg.ops_op (by kernel_rfl) (Xg.opx_pure ((Value.bool (decide (o.kd = (2 : Int))))) rfl (fun _ => by kernel_rfl) ?_)
    refine Xg.ops_nil ?_
    refine Xg.at_false (t := decide ((o.kd = (2 : Int)))) (by kernel_rfl) (decide_eq_false (by omega)) ?_
    refine Xg.at_seq ?_
    refine Xg.at_region ?_
    refine Xg.ops_op (by kernel_rfl) (Xg.opx_pure (.bool (decide ((o.kd : Int) = ((3 : Int))))) rfl (fun _ => by kernel_rfl) ?_)
    refine Xg.ops_op (by kernel_rfl) (Xg.opx_pure ((Value.bool (decide (o.kd = (3 : Int))))) rfl (fun _ => by kernel_rfl) ?_)
    refine Xg.ops_nil ?_
    refine Xg.at_false (t := decide ((o.kd = (3 : Int)))) (by kernel_rfl) (decide_eq_false (by omega)) ?_
    refine Xg.at_seq ?_
    refine Xg.at_region ?_
    refine Xg.ops_op (by kernel_rfl) (Xg.opx_pure (.bool (decide ((o.kd : Int) = ((4 : Int))))) rfl (fun _ => by kernel_rfl) ?_)
    refine Xg.ops_op (by kernel_rfl) (Xg.opx_pure ((Value.bool (decide (o.kd = (4 : Int))))) rfl (fun _ => by kernel_rfl) ?_)
    refine Xg.ops_nil ?_
    refine Xg.at_false (t := decide ((o.kd = (4 : Int)))) (by kernel_rfl) (decide_eq_false (by omega)) ?_
    refine Xg.at_seq ?_
    refine Xg.at_region ?_
    refine Xg.ops_op (by kernel_rfl) (Xg.opx_pure (.bool (decide ((o.kd : Int) = ((5 : Int))))) rfl (fun _ => by kernel_rfl) ?_)
    refine Xg.ops_op (by kernel_rfl) (Xg.opx_pure ((Value.bool (decide (o.kd = (5 : Int))))) rfl (fun _ => by kernel_rfl) ?_)
    refine Xg.ops_nil ?_
    refine Xg.at_false (t := decide ((o.kd = (5 : Int)))) (by kernel_rfl) (decide_eq_false (by omega)) ?_
    refine Xg.at_seq ?_
    refine Xg.at_region ?_
    refine Xg.ops_op (by kernel_rfl) (Xg.opx_pure (.bool (decide ((o.kd : Int) = ((6 : Int))))) rfl (fun _ => by kernel_rfl) ?_)
    refine Xg.ops_op (by kernel_rfl) (Xg.opx_pure ((Value.bool (decide (o.kd = (6 : Int))))) rfl (fun _ => by kernel_rfl) ?_)
    refine Xg.ops_nil ?_
    refine Xg.at_false (t := decide ((o.kd = (6 : Int)))) (by kernel_rfl) (decide_eq_false (by omega)) ?_
    refine Xg.at_seq ?_
    refine Xg.at_region ?_
    refine Xg.ops_op (by kernel_rfl) (Xg.opx_pure (.bool (decide ((o.kd : Int) = ((7 : Int))))) rfl (fun _ => by kernel_rfl) ?_)
    refine Xg.ops_op (by kernel_rfl) (Xg.opx_pure ((Value.bool (decide (o.kd = (7 : Int))))) rfl (fun _ => by kernel_rfl) ?_)
    refine Xg.ops_nil ?_
    refine Xg.at_true (t := decide ((o.kd = (7 : Int)))) (by kernel_rfl) (decide_eq_true (by omega)) ?_
    refine Xg.at_seq ?_
    refine Xg.at_region ?_
    refine Xg.ops_op (by kernel_rfl) (Xg.opx_pure ((pv xb2 1)) rfl (fun _ => by kernel_rfl) ?_)
    refine Xg.ops_op (by kernel_rfl) (Xg.opx_load (b := xb2) (off := ((1 : Nat))) 0 (Value.pointer (some (Addr.mk (Ts.getD i default).snd (0 : Nat) none))) rfl (by kernel_rfl) (by kernel_rfl) (by kernel_rfl) ?_)
    refine Xg.ops_op (by kernel_rfl) (Xg.opx_callE' [7] (fun xx1 => [RefP (Ts.getD i default).snd r s, SP xx1.fst xx1.snd l, row xb2 (74 : Nat) [Value.pointer (some (Addr.mk (Ts.getD i default).fst (0 : Nat) none)), Value.pointer (some (Addr.mk (Ts.getD i default).snd (0 : Nat) none))], row xb1 (53 : Nat) [iv o.kd, iv o.p, iv o.n, Value.bool o.b], WL2 wb la Ts.length lc fa Fr.length fc wa Wa.length wc v4 v5, TH la lc Ts, FH fa fc Fr, IH wa wc Wa, SchedP (Ts.getD i default).fst r s]) (fun _ => by kernel_rfl) (@hy ) (by kernel_rfl) (by kernel_rfl) (by kernel_rfl) fun xx1 xh1 => ?_)
    try dsimp only at xh1
    refine Xg.ops_op (by kernel_rfl) (Xg.opx_pure ((Value.slice xx1.fst l.length xx1.snd)) rfl (fun _ => by kernel_rfl) ?_)
    refine Xg.ops_nil ?_
    refine Xg.at_seq ?_
    refine Xg.at_region ?_
    refine Xg.ops_op (by kernel_rfl) (Xg.opx_pure ((pv xb2 0)) rfl (fun _ => by kernel_rfl) ?_)
    refine Xg.ops_op (by kernel_rfl) (Xg.opx_load (b := xb2) (off := ((0 : Nat))) 2 (Value.pointer (some (Addr.mk (Ts.getD i default).fst (0 : Nat) none))) rfl (by kernel_rfl) (by kernel_rfl) (by kernel_rfl) ?_)
    refine Xg.ops_op (by kernel_rfl) (Xg.opx_callE' [8] (fun xx2 => [SchedP (Ts.getD i default).fst r s, ints (3 : TypeId) IntKind.i64 xx2 l.length l, RefP (Ts.getD i default).snd r s, SP xx1.fst xx1.snd l, row xb2 (74 : Nat) [Value.pointer (some (Addr.mk (Ts.getD i default).fst (0 : Nat) none)), Value.pointer (some (Addr.mk (Ts.getD i default).snd (0 : Nat) none))], row xb1 (53 : Nat) [iv o.kd, iv o.p, iv o.n, Value.bool o.b], WL2 wb la Ts.length lc fa Fr.length fc wa Wa.length wc v4 v5, TH la lc Ts, FH fa fc Fr, IH wa wc Wa]) (fun _ => by kernel_rfl) (@hx ) (by kernel_rfl) (by kernel_rfl) (by kernel_rfl) fun xx2 xh2 => ?_)
    try dsimp only at xh2
    refine Xg.ops_op (by kernel_rfl) (Xg.opx_pure ((Value.slice xx2 l.length l.length)) rfl (fun _ => by kernel_rfl) ?_)
    refine Xg.ops_nil ?_
    refine Xg.at_seq ?_
    refine Xg.at_region ?_
    refine Xg.ops_op (by kernel_rfl) (Xg.opx_pure ((pv xb2 0)) rfl (fun _ => by kernel_rfl) ?_)
    refine Xg.ops_op (by kernel_rfl) (Xg.opx_load (b := xb2) (off := ((0 : Nat))) 4 (Value.pointer (some (Addr.mk (Ts.getD i default).fst (0 : Nat) none))) rfl (by kernel_rfl) (by kernel_rfl) (by kernel_rfl) ?_)
    refine Xg.ops_op (by kernel_rfl) (Xg.opx_callE' [0] (fun xx3 => [SchedP (Ts.getD i default).fst r s, ints (3 : TypeId) IntKind.i64 xx3 l.length l, ints (3 : TypeId) IntKind.i64 xx2 l.length l, RefP (Ts.getD i default).snd r s, SP xx1.fst xx1.snd l, row xb2 (74 : Nat) [Value.pointer (some (Addr.mk (Ts.getD i default).fst (0 : Nat) none)), Value.pointer (some (Addr.mk (Ts.getD i default).snd (0 : Nat) none))], row xb1 (53 : Nat) [iv o.kd, iv o.p, iv o.n, Value.bool o.b], WL2 wb la Ts.length lc fa Fr.length fc wa Wa.length wc v4 v5, TH la lc Ts, FH fa fc Fr, IH wa wc Wa]) (fun _ => by kernel_rfl) (@hx ) (by kernel_rfl) (by kernel_rfl) (by kernel_rfl) fun xx3 xh3 => ?_)
    try dsimp only at xh3
    refine Xg.ops_op (by kernel_rfl) (Xg.opx_pure ((Value.slice xx3 l.length l.length)) rfl (fun _ => by kernel_rfl) ?_)
    refine Xg.ops_nil ?_
    refine Xg.at_seq ?_
    refine Xg.at_region ?_
    refine Xg.ops_op (by kernel_rfl) (Xg.opx_pure ((Value.slice xx2 l.length l.length)) rfl (fun _ => by kernel_rfl) ?_)
    refine Xg.ops_op (by kernel_rfl) (Xg.opx_pure ((Value.slice xx1.fst l.length xx1.snd)) rfl (fun _ => by kernel_rfl) ?_)
    refine Xg.ops_op (by kernel_rfl) (Xg.opx_call1' [2, 4] [SP xx2 l.length l, SP xx1.fst xx1.snd l, SchedP (Ts.getD i default).fst r s, ints (3 : TypeId) IntKind.i64 xx3 l.length l, RefP (Ts.getD i default).snd r s, row xb2 (74 : Nat) [Value.pointer (some (Addr.mk (Ts.getD i default).fst (0 : Nat) none)), Value.pointer (some (Addr.mk (Ts.getD i default).snd (0 : Nat) none))], row xb1 (53 : Nat) [iv o.kd, iv o.p, iv o.n, Value.bool o.b], WL2 wb la Ts.length lc fa Fr.length fc wa Wa.length wc v4 v5, TH la lc Ts, FH fa fc Fr, IH wa wc Wa] (fun _ => by kernel_rfl) (@hs (xx2) (xx1.fst) (l.length) (xx1.snd)) (by kernel_rfl) (by kernel_rfl) (by kernel_rfl) ?_)
    refine Xg.ops_op (by kernel_rfl) (Xg.opx_pure ((Value.bool true)) rfl (fun _ => by kernel_rfl) ?_)
    refine Xg.ops_nil ?_
    refine Xg.at_seq ?_
    refine Xg.at_region ?_
    refine Xg.ops_op (by kernel_rfl) (Xg.opx_pure ((Value.slice xx3 l.length l.length)) rfl (fun _ => by kernel_rfl) ?_)
    refine Xg.ops_op (by kernel_rfl) (Xg.opx_pure ((Value.slice xx1.fst l.length xx1.snd)) rfl (fun _ => by kernel_rfl) ?_)
    refine Xg.ops_op (by kernel_rfl) (Xg.opx_call1' [3, 1] [SP xx3 l.length l, SP xx1.fst xx1.snd l, SP xx2 l.length l, SchedP (Ts.getD i default).fst r s, RefP (Ts.getD i default).snd r s, row xb2 (74 : Nat) [Value.pointer (some (Addr.mk (Ts.getD i default).fst (0 : Nat) none)), Value.pointer (some (Addr.mk (Ts.getD i default).snd (0 : Nat) none))], row xb1 (53 : Nat) [iv o.kd, iv o.p, iv o.n, Value.bool o.b], WL2 wb la Ts.length lc fa Fr.length fc wa Wa.length wc v4 v5, TH la lc Ts, FH fa fc Fr, IH wa wc Wa] (fun _ => by kernel_rfl) (@hs (xx3) (xx1.fst) (l.length) (xx1.snd)) (by kernel_rfl) (by kernel_rfl) (by kernel_rfl) ?_)
    refine Xg.ops_op (by kernel_rfl) (Xg.opx_pure ((Value.bool true)) rfl (fun _ => by kernel_rfl) ?_)
    refine Xg.ops_nil ?_
    refine Xg.at_seq ?_
    refine Xg.at_region ?_
    refine Xg.ops_op (by kernel_rfl) (Xg.opx_pure ((pv wb 0)) rfl (fun _ => by kernel_rfl) ?_)
    refine Xg.ops_op (by kernel_rfl) (Xg.opx_pure ((Value.slice xx2 l.length l.length)) rfl (fun _ => by kernel_rfl) ?_)
    refine Xg.ops_op (by kernel_rfl) (Xg.opx_callE' [7, 9, 10, 2] (fun xx4 => [row wb (50 : TypeId) [Value.slice la Ts.length lc, Value.slice xx4.fst.fst (Fr ++ [(xx2, l)]).length xx4.fst.snd, Value.slice xx4.snd.fst.fst (Wa ++ [(xx4.snd.snd.fst, xx4.snd.snd.snd, l)]).length xx4.snd.fst.snd, v4, v5], FH xx4.fst.fst xx4.fst.snd (Fr ++ [(xx2, l)]), IH xx4.snd.fst.fst xx4.snd.fst.snd (Wa ++ [(xx4.snd.snd.fst, xx4.snd.snd.snd, l)]), SP xx2 l.length l, SP xx4.snd.snd.fst xx4.snd.snd.snd l, SP xx3 l.length l, SP xx1.fst xx1.snd l, SchedP (Ts.getD i default).fst r s, RefP (Ts.getD i default).snd r s, row xb2 (74 : Nat) [Value.pointer (some (Addr.mk (Ts.getD i default).fst (0 : Nat) none)), Value.pointer (some (Addr.mk (Ts.getD i default).snd (0 : Nat) none))], row xb1 (53 : Nat) [iv o.kd, iv o.p, iv o.n, Value.bool o.b], TH la lc Ts]) (fun _ => by kernel_rfl) (@ht1 (fa) (wa) (fc) (wc) (xx2)) (by kernel_rfl) (by kernel_rfl) (by kernel_rfl) fun xx4 xh4 => ?_)
    try dsimp only at xh4
    refine Xg.ops_nil ?_
    refine Xg.at_seq ?_
    refine Xg.at_region ?_
    refine Xg.ops_op (by kernel_rfl) (Xg.opx_pure ((pv wb 0)) rfl (fun _ => by kernel_rfl) ?_)
    refine Xg.ops_op (by kernel_rfl) (Xg.opx_pure ((Value.slice xx3 l.length l.length)) rfl (fun _ => by kernel_rfl) ?_)
    refine Xg.ops_op (by kernel_rfl) (Xg.opx_callE' [0, 1, 2, 5] (fun xx5 => [row wb (50 : TypeId) [Value.slice la Ts.length lc, Value.slice xx5.fst.fst (Fr ++ [(xx2, l)] ++ [(xx3, l)]).length xx5.fst.snd, Value.slice xx5.snd.fst.fst (Wa ++ [(xx4.snd.snd.fst, xx4.snd.snd.snd, l)] ++ [(xx5.snd.snd.fst, xx5.snd.snd.snd, l)]).length xx5.snd.fst.snd, v4, v5], FH xx5.fst.fst xx5.fst.snd (Fr ++ [(xx2, l)] ++ [(xx3, l)]), IH xx5.snd.fst.fst xx5.snd.fst.snd (Wa ++ [(xx4.snd.snd.fst, xx4.snd.snd.snd, l)] ++ [(xx5.snd.snd.fst, xx5.snd.snd.snd, l)]), SP xx3 l.length l, SP xx5.snd.snd.fst xx5.snd.snd.snd l, SP xx2 l.length l, SP xx4.snd.snd.fst xx4.snd.snd.snd l, SP xx1.fst xx1.snd l, SchedP (Ts.getD i default).fst r s, RefP (Ts.getD i default).snd r s, row xb2 (74 : Nat) [Value.pointer (some (Addr.mk (Ts.getD i default).fst (0 : Nat) none)), Value.pointer (some (Addr.mk (Ts.getD i default).snd (0 : Nat) none))], row xb1 (53 : Nat) [iv o.kd, iv o.p, iv o.n, Value.bool o.b], TH la lc Ts]) (fun _ => by kernel_rfl) (@ht2 (xx4.fst.fst) (xx4.snd.fst.fst) (xx4.fst.snd) (xx4.snd.fst.snd) (xx3) (xx2) (xx4.snd.snd.fst) (xx4.snd.snd.snd)) (by kernel_rfl) (by kernel_rfl) (by kernel_rfl) fun xx5 xh5 => ?_)
    try dsimp only at xh5
    refine Xg.ops_nil ?_
    refine Xg.at_seq ?_
    refine Xg.at_region ?_
    refine Xg.ops_op (by kernel_rfl) (Xg.opx_pure ((Value.bool true)) rfl (fun _ => by kernel_rfl) ?_)
    refine Xg.ops_op (by kernel_rfl) (Xg.opx_pure ((Value.bool true)) rfl (fun _ => by kernel_rfl) ?_)
    refine Xg.ops_op (by kernel_rfl) (Xg.opx_pure ((Value.bool true)) rfl (fun _ => by kernel_rfl) ?_)
    refine Xg.ops_op (by kernel_rfl) (Xg.opx_pure ((Value.bool true)) rfl (fun _ => by kernel_rfl) ?_)
    refine Xg.ops_op (by kernel_rfl) (Xg.opx_pure ((Value.bool true)) rfl (fun _ => by kernel_rfl) ?_)
    refine Xg.ops_nil ?_
    refine Xg.at_ret_ps (v := (Value.bool true)) [0, 12, 1, 2, 8, 9, 5, 3, 6, 4] [row wb (50 : TypeId) [Value.slice la Ts.length lc, Value.slice xx5.fst.fst (Fr ++ [(xx2, l)] ++ [(xx3, l)]).length xx5.fst.snd, Value.slice xx5.snd.fst.fst (Wa ++ [(xx4.snd.snd.fst, xx4.snd.snd.snd, l)] ++ [(xx5.snd.snd.fst, xx5.snd.snd.snd, l)]).length xx5.snd.fst.snd, v4, v5], TH la lc Ts, FH xx5.fst.fst xx5.fst.snd (Fr ++ [(xx2, l)] ++ [(xx3, l)]), IH xx5.snd.fst.fst xx5.snd.fst.snd (Wa ++ [(xx4.snd.snd.fst, xx4.snd.snd.snd, l)] ++ [(xx5.snd.snd.fst, xx5.snd.snd.snd, l)]), SchedP (Ts.getD i default).fst r s, RefP (Ts.getD i default).snd r s, SP xx2 l.length l, SP xx3 l.length l, SP xx4.snd.snd.fst xx4.snd.snd.snd l, SP xx5.snd.snd.fst xx5.snd.snd.snd l] Go.Proofs.Try.func19 (fun _ => by kernel_rfl) (by kernel_rfl) (by kernel_rfl) ?_
    refine ⟨(((xx5.fst.fst, xx5.fst.snd), (xx5.snd.fst.fst, xx5.snd.fst.snd), (xx2, xx3), (xx4.snd.snd.fst, xx4.snd.snd.snd), xx5.snd.snd.fst, xx5.snd.snd.snd)), trivial, by kernel_rfl, ?_⟩
    rotate_left
    refine Xg.any_each [11] (by kernel_rfl) rfl ⟨?_, trivial⟩
    refine Xg.comes_act rfl (by kernel_rfl) (by kernel_rfl) (Xg.opx_call1' [] [row xb2 (74 : Nat) [Value.pointer none, Value.pointer none], row xb1 (53 : Nat) [iv o.kd, iv o.p, iv o.n, Value.bool o.b], WL2 wb la Ts.length lc fa Fr.length fc wa Wa.length wc v4 v5, TH la lc Ts, FH fa fc Fr, IH wa wc Wa, SchedP (Ts.getD i default).fst r s, RefP (Ts.getD i default).snd r s] (fun _ => by kernel_rfl) (@hpd ) (by kernel_rfl) (by kernel_rfl) (by kernel_rfl) ?_)
    refine Xg.acts (Xg.owes_cell 2 rfl (by kernel_rfl) (Xg.owes_skip (by kernel_rfl) (Xg.owes_skip (by kernel_rfl) (Xg.owes_rd 3 (Xg.reads_own (E := ((74 : Nat))) (sz := ((2 : Nat))) (n := Ts.length) (c := lc) (a := la) (vs := (recs thK Ts))) (by kernel_rfl) (Xg.owes_rd 3 (Xg.reads_own (E := ((74 : Nat))) (sz := ((2 : Nat))) (n := Ts.length) (c := lc) (a := la) (vs := (recs thK Ts))) (by kernel_rfl) Xg.owes_nil))))) ?_
    refine Xg.any_reads (.pointer (some (Addr.mk (Xg.blk la) (offA la + i * (2 : Nat)) none))) 12 3 (by kernel_rfl) rfl (by kernel_rfl) (by kernel_rfl) (by kernel_rfl) (by kernel_rfl) rfl rfl (by kernel_rfl) (Xg.rd_now 3 (Xg.reads_own (E := ((74 : Nat))) (sz := ((2 : Nat))) (n := Ts.length) (c := lc) (a := la) (vs := (recs thK Ts))) (by kernel_rfl)) (Xg.run_ix_rd (elem := 74) (kd := .i64) (e := ((↑i : Int))) 2 i (offA la + i * (2 : Nat)) (by kernel_rfl) (by kernel_rfl) (by kernel_rfl) (by kernel_rfl) rfl (by omega) (by rw [Xg.recs_len (wd := 2) (fun _ => rfl)]; omega) (by omega)) ?_
    refine Xg.any_reads (.agg (List.toArray [Value.pointer (some (Addr.mk (Ts.getD i default).fst (0 : Nat) none)), Value.pointer (some (Addr.mk (Ts.getD i default).snd (0 : Nat) none))])) 13 4 (by kernel_rfl) rfl (by kernel_rfl) (by kernel_rfl) (by kernel_rfl) (by kernel_rfl) rfl rfl (by kernel_rfl) (Xg.rd_now 3 (Xg.reads_own (E := ((74 : Nat))) (sz := ((2 : Nat))) (n := Ts.length) (c := lc) (a := la) (vs := (recs thK Ts))) (by kernel_rfl)) (Xg.run_loadn_rd (off0 := (offA la + i * (2 : Nat))) 2 (i * (2 : Nat)) [Value.pointer (some (Addr.mk (Ts.getD i default).fst (0 : Nat) none)), Value.pointer (some (Addr.mk (Ts.getD i default).snd (0 : Nat) none))] (by kernel_rfl) (by kernel_rfl) (by omega) rfl (Xg.recs_at' (wd := 2) (fun _ => rfl) default i (by omega) (by omega) (by kernel_rfl)) (by kernel_rfl)) ?_
    refine Xg.any_each [15] (by kernel_rfl) rfl ⟨?_, trivial⟩
    refine Xg.comes_act rfl (by kernel_rfl) (by kernel_rfl) (Xg.opx_storen 2 (off := 0) 0 [Value.pointer (some (Addr.mk (Ts.getD i default).fst (0 : Nat) none)), Value.pointer (some (Addr.mk (Ts.getD i default).snd (0 : Nat) none))] (by kernel_rfl) rfl (by kernel_rfl) (by kernel_rfl) rfl (by kernel_rfl) (Nat.le_of_ble_eq_true (by kernel_rfl)) ?_)
    refine Xg.acts (Xg.owes_skip (by kernel_rfl) (Xg.owes_skip (by kernel_rfl) (Xg.owes_skip (by kernel_rfl) (Xg.owes_skip (by kernel_rfl) (Xg.owes_skip (by kernel_rfl) Xg.owes_nil))))) ?_
    refine Xg.any_nil (by kernel_rfl) ?_
    refine Xg.at_seq ?_
    refine Xg.at_seq ?_
    refine Xg.at_region ?_
    refine Xg.ops_op (by kernel_rfl) (Xg.opx_pure ((pv xb1 0)) rfl (fun _ => by kernel_rfl) ?_)
    refine Xg.ops_op (by kernel_rfl) (Xg.opx_load (b := xb1) (off := ((0 : Nat))) 1 (iv o.kd) rfl (by kernel_rfl) (by kernel_rfl) (by kernel_rfl) ?_)
    refine Xg.ops_nil ?_
    refine Xg.at_block ?_
    refine Xg.at_seq ?_
    refine Xg.at_region ?_
    refine Xg.ops_op (by kernel_rfl) (Xg.opx_pure (.bool (decide ((o.kd : Int) = ((2 : Int))))) rfl (fun _ => by kernel_rfl) ?_)
    refine Xg.ops_op (by kernel_rfl) (Xg.opx_pure ((Value.bool (decide (o.kd = (2 : Int))))) rfl (fun _ => by kernel_rfl) ?_)
    refine Xg.ops_nil ?_
    refine Xg.at_false (t := decide ((o.kd = (2 : Int)))) (by kernel_rfl) (decide_eq_false (by omega)) ?_
    refine Xg.at_seq ?_
    refine Xg.at_region ?_
    refine Xg.ops_op (by kernel_rfl) (Xg.opx_pure (.bool (decide ((o.kd : Int) = ((3 : Int))))) rfl (fun _ => by kernel_rfl) ?_)
    refine Xg.ops_op (by kernel_rfl) (Xg.opx_pure ((Value.bool (decide (o.kd = (3 : Int))))) rfl (fun _ => by kernel_rfl) ?_)
    refine Xg.ops_nil ?_
    refine Xg.at_false (t := decide ((o.kd = (3 : Int)))) (by kernel_rfl) (decide_eq_false (by omega)) ?_
    refine Xg.at_seq ?_
    refine Xg.at_region ?_
    refine Xg.ops_op (by kernel_rfl) (Xg.opx_pure (.bool (decide ((o.kd : Int) = ((4 : Int))))) rfl (fun _ => by kernel_rfl) ?_)
    refine Xg.ops_op (by kernel_rfl) (Xg.opx_pure ((Value.bool (decide (o.kd = (4 : Int))))) rfl (fun _ => by kernel_rfl) ?_)
    refine Xg.ops_nil ?_
    refine Xg.at_false (t := decide ((o.kd = (4 : Int)))) (by kernel_rfl) (decide_eq_false (by omega)) ?_
    refine Xg.at_seq ?_
    refine Xg.at_region ?_
    refine Xg.ops_op (by kernel_rfl) (Xg.opx_pure (.bool (decide ((o.kd : Int) = ((5 : Int))))) rfl (fun _ => by kernel_rfl) ?_)
    refine Xg.ops_op (by kernel_rfl) (Xg.opx_pure ((Value.bool (decide (o.kd = (5 : Int))))) rfl (fun _ => by kernel_rfl) ?_)
    refine Xg.ops_nil ?_
    refine Xg.at_false (t := decide ((o.kd = (5 : Int)))) (by kernel_rfl) (decide_eq_false (by omega)) ?_
    refine Xg.at_seq ?_
    refine Xg.at_region ?_
    refine Xg.ops_op (by kernel_rfl) (Xg.opx_pure (.bool (decide ((o.kd : Int) = ((6 : Int))))) rfl (fun _ => by kernel_rfl) ?_)
    refine Xg.ops_op (by kernel_rfl) (Xg.opx_pure ((Value.bool (decide (o.kd = (6 : Int))))) rfl (fun _ => by kernel_rfl) ?_)
    refine Xg.ops_nil ?_
    refine Xg.at_false (t := decide ((o.kd = (6 : Int)))) (by kernel_rfl) (decide_eq_false (by omega)) ?_
    refine Xg.at_seq ?_
    refine Xg.at_region ?_
    refine Xg.ops_op (by kernel_rfl) (Xg.opx_pure (.bool (decide ((o.kd : Int) = ((7 : Int))))) rfl (fun _ => by kernel_rfl) ?_)
    refine Xg.ops_op (by kernel_rfl) (Xg.opx_pure ((Value.bool (decide (o.kd = (7 : Int))))) rfl (fun _ => by kernel_rfl) ?_)
    refine Xg.ops_nil ?_
    refine Xg.at_true (t := decide ((o.kd = (7 : Int)))) (by kernel_rfl) (decide_eq_true (by omega)) ?_
    refine Xg.at_seq ?_
    refine Xg.at_region ?_
    refine Xg.ops_op (by kernel_rfl) (Xg.opx_pure ((pv xb2 1)) rfl (fun _ => by kernel_rfl) ?_)
    refine Xg.ops_op (by kernel_rfl) (Xg.opx_load (b := xb2) (off := ((1 : Nat))) 0 (Value.pointer (some (Addr.mk (Ts.getD i default).snd (0 : Nat) none))) rfl (by kernel_rfl) (by kernel_rfl) (by kernel_rfl) ?_)
    refine Xg.ops_op (by kernel_rfl) (Xg.opx_callE' [7] (fun xx1 => [RefP (Ts.getD i default).snd r s, SP xx1.fst xx1.snd l, row xb2 (74 : Nat) [Value.pointer (some (Addr.mk (Ts.getD i default).fst (0 : Nat) none)), Value.pointer (some (Addr.mk (Ts.getD i default).snd (0 : Nat) none))], row xb1 (53 : Nat) [iv o.kd, iv o.p, iv o.n, Value.bool o.b], WL2 wb la Ts.length lc fa Fr.length fc wa Wa.length wc v4 v5, TH la lc Ts, FH fa fc Fr, IH wa wc Wa, SchedP (Ts.getD i default).fst r s]) (fun _ => by kernel_rfl) (@hy ) (by kernel_rfl) (by kernel_rfl) (by kernel_rfl) fun xx1 xh1 => ?_)
    try dsimp only at xh1
    refine Xg.ops_op (by kernel_rfl) (Xg.opx_pure ((Value.slice xx1.fst l.length xx1.snd)) rfl (fun _ => by kernel_rfl) ?_)
    refine Xg.ops_nil ?_
    refine Xg.at_seq ?_
    refine Xg.at_region ?_
    refine Xg.ops_op (by kernel_rfl) (Xg.opx_pure ((pv xb2 0)) rfl (fun _ => by kernel_rfl) ?_)
    refine Xg.ops_op (by kernel_rfl) (Xg.opx_load (b := xb2) (off := ((0 : Nat))) 2 (Value.pointer (some (Addr.mk (Ts.getD i default).fst (0 : Nat) none))) rfl (by kernel_rfl) (by kernel_rfl) (by kernel_rfl) ?_)
    refine Xg.ops_op (by kernel_rfl) (Xg.opx_callE' [8] (fun xx2 => [SchedP (Ts.getD i default).fst r s, ints (3 : TypeId) IntKind.i64 xx2 l.length l, RefP (Ts.getD i default).snd r s, SP xx1.fst xx1.snd l, row xb2 (74 : Nat) [Value.pointer (some (Addr.mk (Ts.getD i default).fst (0 : Nat) none)), Value.pointer (some (Addr.mk (Ts.getD i default).snd (0 : Nat) none))], row xb1 (53 : Nat) [iv o.kd, iv o.p, iv o.n, Value.bool o.b], WL2 wb la Ts.length lc fa Fr.length fc wa Wa.length wc v4 v5, TH la lc Ts, FH fa fc Fr, IH wa wc Wa]) (fun _ => by kernel_rfl) (@hx ) (by kernel_rfl) (by kernel_rfl) (by kernel_rfl) fun xx2 xh2 => ?_)
    try dsimp only at xh2
    refine Xg.ops_op (by kernel_rfl) (Xg.opx_pure ((Value.slice xx2 l.length l.length)) rfl (fun _ => by kernel_rfl) ?_)
    refine Xg.ops_nil ?_
    refine Xg.at_seq ?_
    refine Xg.at_region ?_
    refine Xg.ops_op (by kernel_rfl) (Xg.opx_pure ((pv xb2 0)) rfl (fun _ => by kernel_rfl) ?_)
    refine Xg.ops_op (by kernel_rfl) (Xg.opx_load (b := xb2) (off := ((0 : Nat))) 4 (Value.pointer (some (Addr.mk (Ts.getD i default).fst (0 : Nat) none))) rfl (by kernel_rfl) (by kernel_rfl) (by kernel_rfl) ?_)
    refine Xg.ops_op (by kernel_rfl) (Xg.opx_callE' [0] (fun xx3 => [SchedP (Ts.getD i default).fst r s, ints (3 : TypeId) IntKind.i64 xx3 l.length l, ints (3 : TypeId) IntKind.i64 xx2 l.length l, RefP (Ts.getD i default).snd r s, SP xx1.fst xx1.snd l, row xb2 (74 : Nat) [Value.pointer (some (Addr.mk (Ts.getD i default).fst (0 : Nat) none)), Value.pointer (some (Addr.mk (Ts.getD i default).snd (0 : Nat) none))], row xb1 (53 : Nat) [iv o.kd, iv o.p, iv o.n, Value.bool o.b], WL2 wb la Ts.length lc fa Fr.length fc wa Wa.length wc v4 v5, TH la lc Ts, FH fa fc Fr, IH wa wc Wa]) (fun _ => by kernel_rfl) (@hx ) (by kernel_rfl) (by kernel_rfl) (by kernel_rfl) fun xx3 xh3 => ?_)
    try dsimp only at xh3
    refine Xg.ops_op (by kernel_rfl) (Xg.opx_pure ((Value.slice xx3 l.length l.length)) rfl (fun _ => by kernel_rfl) ?_)
    refine Xg.ops_nil ?_
    refine Xg.at_seq ?_
    refine Xg.at_region ?_
    refine Xg.ops_op (by kernel_rfl) (Xg.opx_pure ((Value.slice xx2 l.length l.length)) rfl (fun _ => by kernel_rfl) ?_)
    refine Xg.ops_op (by kernel_rfl) (Xg.opx_pure ((Value.slice xx1.fst l.length xx1.snd)) rfl (fun _ => by kernel_rfl) ?_)
    refine Xg.ops_op (by kernel_rfl) (Xg.opx_call1' [2, 4] [SP xx2 l.length l, SP xx1.fst xx1.snd l, SchedP (Ts.getD i default).fst r s, ints (3 : TypeId) IntKind.i64 xx3 l.length l, RefP (Ts.getD i default).snd r s, row xb2 (74 : Nat) [Value.pointer (some (Addr.mk (Ts.getD i default).fst (0 : Nat) none)), Value.pointer (some (Addr.mk (Ts.getD i default).snd (0 : Nat) none))], row xb1 (53 : Nat) [iv o.kd, iv o.p, iv o.n, Value.bool o.b], WL2 wb la Ts.length lc fa Fr.length fc wa Wa.length wc v4 v5, TH la lc Ts, FH fa fc Fr, IH wa wc Wa] (fun _ => by kernel_rfl) (@hs (xx2) (xx1.fst) (l.length) (xx1.snd)) (by kernel_rfl) (by kernel_rfl) (by kernel_rfl) ?_)
    refine Xg.ops_op (by kernel_rfl) (Xg.opx_pure ((Value.bool true)) rfl (fun _ => by kernel_rfl) ?_)
    refine Xg.ops_nil ?_
    refine Xg.at_seq ?_
    refine Xg.at_region ?_
    refine Xg.ops_op (by kernel_rfl) (Xg.opx_pure ((Value.slice xx3 l.length l.length)) rfl (fun _ => by kernel_rfl) ?_)
    refine Xg.ops_op (by kernel_rfl) (Xg.opx_pure ((Value.slice xx1.fst l.length xx1.snd)) rfl (fun _ => by kernel_rfl) ?_)
    refine Xg.ops_op (by kernel_rfl) (Xg.opx_call1' [3, 1] [SP xx3 l.length l, SP xx1.fst xx1.snd l, SP xx2 l.length l, SchedP (Ts.getD i default).fst r s, RefP (Ts.getD i default).snd r s, row xb2 (74 : Nat) [Value.pointer (some (Addr.mk (Ts.getD i default).fst (0 : Nat) none)), Value.pointer (some (Addr.mk (Ts.getD i default).snd (0 : Nat) none))], row xb1 (53 : Nat) [iv o.kd, iv o.p, iv o.n, Value.bool o.b], WL2 wb la Ts.length lc fa Fr.length fc wa Wa.length wc v4 v5, TH la lc Ts, FH fa fc Fr, IH wa wc Wa] (fun _ => by kernel_rfl) (@hs (xx3) (xx1.fst) (l.length) (xx1.snd)) (by kernel_rfl) (by kernel_rfl) (by kernel_rfl) ?_)
    refine Xg.ops_op (by kernel_rfl) (Xg.opx_pure ((Value.bool true)) rfl (fun _ => by kernel_rfl) ?_)
    refine Xg.ops_nil ?_
    refine Xg.at_seq ?_
    refine Xg.at_region ?_
    refine Xg.ops_op (by kernel_rfl) (Xg.opx_pure ((pv wb 0)) rfl (fun _ => by kernel_rfl) ?_)
    refine Xg.ops_op (by kernel_rfl) (Xg.opx_pure ((Value.slice xx2 l.length l.length)) rfl (fun _ => by kernel_rfl) ?_)
    refine Xg.ops_op (by kernel_rfl) (Xg.opx_callE' [7, 9, 10, 2] (fun xx4 => [row wb (50 : TypeId) [Value.slice la Ts.length lc, Value.slice xx4.fst.fst (Fr ++ [(xx2, l)]).length xx4.fst.snd, Value.slice xx4.snd.fst.fst (Wa ++ [(xx4.snd.snd.fst, xx4.snd.snd.snd, l)]).length xx4.snd.fst.snd, v4, v5], FH xx4.fst.fst xx4.fst.snd (Fr ++ [(xx2, l)]), IH xx4.snd.fst.fst xx4.snd.fst.snd (Wa ++ [(xx4.snd.snd.fst, xx4.snd.snd.snd, l)]), SP xx2 l.length l, SP xx4.snd.snd.fst xx4.snd.snd.snd l, SP xx3 l.length l, SP xx1.fst xx1.snd l, SchedP (Ts.getD i default).fst r s, RefP (Ts.getD i default).snd r s, row xb2 (74 : Nat) [Value.pointer (some (Addr.mk (Ts.getD i default).fst (0 : Nat) none)), Value.pointer (some (Addr.mk (Ts.getD i default).snd (0 : Nat) none))], row xb1 (53 : Nat) [iv o.kd, iv o.p, iv o.n, Value.bool o.b], TH la lc Ts]) (fun _ => by kernel_rfl) (@ht1 (fa) (wa) (fc) (wc) (xx2)) (by kernel_rfl) (by kernel_rfl) (by kernel_rfl) fun xx4 xh4 => ?_)
    try dsimp only at xh4
    refine Xg.ops_nil ?_
    refine Xg.at_seq ?_
    refine Xg.at_region ?_
    refine Xg.ops_op (by kernel_rfl) (Xg.opx_pure ((pv wb 0)) rfl (fun _ => by kernel_rfl) ?_)
    refine Xg.ops_op (by kernel_rfl) (Xg.opx_pure ((Value.slice xx3 l.length l.length)) rfl (fun _ => by kernel_rfl) ?_)
    refine Xg.ops_op (by kernel_rfl) (Xg.opx_callE' [0, 1, 2, 5] (fun xx5 => [row wb (50 : TypeId) [Value.slice la Ts.length lc, Value.slice xx5.fst.fst (Fr ++ [(xx2, l)] ++ [(xx3, l)]).length xx5.fst.snd, Value.slice xx5.snd.fst.fst (Wa ++ [(xx4.snd.snd.fst, xx4.snd.snd.snd, l)] ++ [(xx5.snd.snd.fst, xx5.snd.snd.snd, l)]).length xx5.snd.fst.snd, v4, v5], FH xx5.fst.fst xx5.fst.snd (Fr ++ [(xx2, l)] ++ [(xx3, l)]), IH xx5.snd.fst.fst xx5.snd.fst.snd (Wa ++ [(xx4.snd.snd.fst, xx4.snd.snd.snd, l)] ++ [(xx5.snd.snd.fst, xx5.snd.snd.snd, l)]), SP xx3 l.length l, SP xx5.snd.snd.fst xx5.snd.snd.snd l, SP xx2 l.length l, SP xx4.snd.snd.fst xx4.snd.snd.snd l, SP xx1.fst xx1.snd l, SchedP (Ts.getD i default).fst r s, RefP (Ts.getD i default).snd r s, row xb2 (74 : Nat) [Value.pointer (some (Addr.mk (Ts.getD i default).fst (0 : Nat) none)), Value.pointer (some (Addr.mk (Ts.getD i default).snd (0 : Nat) none))], row xb1 (53 : Nat) [iv o.kd, iv o.p, iv o.n, Value.bool o.b], TH la lc Ts]) (fun _ => by kernel_rfl) (@ht2 (xx4.fst.fst) (xx4.snd.fst.fst) (xx4.fst.snd) (xx4.snd.fst.snd) (xx3) (xx2) (xx4.snd.snd.fst) (xx4.snd.snd.snd)) (by kernel_rfl) (by kernel_rfl) (by kernel_rfl) fun xx5 xh5 => ?_)
    try dsimp only at xh5
    refine Xg.ops_nil ?_
    refine Xg.at_seq ?_
    refine Xg.at_region ?_
    refine Xg.ops_op (by kernel_rfl) (Xg.opx_pure ((Value.bool true)) rfl (fun _ => by kernel_rfl) ?_)
    refine Xg.ops_op (by kernel_rfl) (Xg.opx_pure ((Value.bool true)) rfl (fun _ => by kernel_rfl) ?_)
    refine Xg.ops_op (by kernel_rfl) (Xg.opx_pure ((Value.bool true)) rfl (fun _ => by kernel_rfl) ?_)
    refine Xg.ops_op (by kernel_rfl) (Xg.opx_pure ((Value.bool true)) rfl (fun _ => by kernel_rfl) ?_)
    refine Xg.ops_op (by kernel_rfl) (Xg.opx_pure ((Value.bool true)) rfl (fun _ => by kernel_rfl) ?_)
    refine Xg.ops_nil ?_
    refine Xg.at_ret_ps (v := (Value.bool true)) [0, 12, 1, 2, 8, 9, 5, 3, 6, 4] [row wb (50 : TypeId) [Value.slice la Ts.length lc, Value.slice xx5.fst.fst (Fr ++ [(xx2, l)] ++ [(xx3, l)]).length xx5.fst.snd, Value.slice xx5.snd.fst.fst (Wa ++ [(xx4.snd.snd.fst, xx4.snd.snd.snd, l)] ++ [(xx5.snd.snd.fst, xx5.snd.snd.snd, l)]).length xx5.snd.fst.snd, v4, v5], TH la lc Ts, FH xx5.fst.fst xx5.fst.snd (Fr ++ [(xx2, l)] ++ [(xx3, l)]), IH xx5.snd.fst.fst xx5.snd.fst.snd (Wa ++ [(xx4.snd.snd.fst, xx4.snd.snd.snd, l)] ++ [(xx5.snd.snd.fst, xx5.snd.snd.snd, l)]), SchedP (Ts.getD i default).fst r s, RefP (Ts.getD i default).snd r s, SP xx2 l.length l, SP xx3 l.length l, SP xx4.snd.snd.fst xx4.snd.snd.snd l, SP xx5.snd.snd.fst xx5.snd.snd.snd l] Go.Proofs.Try.func19 (fun _ => by kernel_rfl) (by kernel_rfl) (by kernel_rfl) ?_
    refine ⟨(((xx5.fst.fst, xx5.fst.snd), (xx5.snd.fst.fst, xx5.snd.fst.snd), (xx2, xx3), (xx4.snd.snd.fst, xx4.snd.snd.snd), xx5.snd.snd.fst, xx5.snd.snd.snd)), trivial, by kernel_rfl, ?_⟩)
  all_goals rfl
end Go.Proofs.Ytijjficnhpokdaa

/- The sched law's World as one part; step over it. -/
namespace Go.Proofs.Ytijjficnhpokdaa
open Go.Sl Go.Xg
set_option linter.unusedVariables false
set_option linter.unusedSimpArgs false
set_option linter.unusedSectionVars false
set_option linter.unnecessarySimpa false
set_option maxHeartbeats 4000000
set_option maxRecDepth 100000

structure Th where
  x : Nat
  y : Nat
  r : List (Int × Bool)
  s : List Int
deriving Inhabited
abbrev xy (t : Th) : Nat × Nat := (t.x, t.y)
def thP (t : Th) : HP := seps [SchedP t.x t.r t.s, RefP t.y t.r t.s]
structure Wst where
  la : Option Addr
  lc : Nat
  TT : List Th
  fa : Option Addr
  fc : Nat
  Fr : List (Option Addr × List Int)
  wa : Option Addr
  wc : Nat
  Wa : List (Option Addr × Nat × List Int)
  xa : Option Addr
  xc : Nat
  Ls : List (Option Addr × Nat × List Int)
  ma : Option Addr
  mc : Nat
  Ms : List Int
abbrev WRow (wb : Nat) (W : Wst) : HP := row wb 50 [.slice W.la (W.TT.map xy).length W.lc, .slice W.fa W.Fr.length W.fc, .slice W.wa W.Wa.length W.wc, .slice W.xa W.Ls.length W.xc, .slice W.ma W.Ms.length W.mc]
def WS (wb : Nat) (W : Wst) : HP := seps [WRow wb W, TH W.la W.lc (W.TT.map xy), starL thP W.TT, FH W.fa W.fc W.Fr, starL frP W.Fr, IH W.wa W.wc W.Wa, starL ihP W.Wa, IH W.xa W.xc W.Ls, starL ihP W.Ls, SP W.ma W.mc W.Ms]
theorem ws_open {wb : Nat} {W : Wst} {g w : World} {F : List HP} (h : SL g ([WS wb W] ++ F) w) : SL g ([WRow wb W, TH W.la W.lc (W.TT.map xy), starL thP W.TT, FH W.fa W.fc W.Fr, starL frP W.Fr, IH W.wa W.wc W.Wa, starL ihP W.Wa, IH W.xa W.xc W.Ls, starL ihP W.Ls, SP W.ma W.mc W.Ms] ++ F) w := SL.flat.1 h
theorem ws_shut {wb : Nat} {W : Wst} {g w : World} {F : List HP} (h : SL g ([WRow wb W, TH W.la W.lc (W.TT.map xy), starL thP W.TT, FH W.fa W.fc W.Fr, starL frP W.Fr, IH W.wa W.wc W.Wa, starL ihP W.Wa, IH W.xa W.xc W.Ls, starL ihP W.Ls, SP W.ma W.mc W.Ms] ++ F) w) : SL g ([WS wb W] ++ F) w := SL.flat.2 h
theorem does_conv {pre pre' K : List HP} {f : FuncId} {args : List Value} {α β : Type} {pp : α → Prop} {V : α → Value} {PS : α → List HP} {q : β → Prop} {V' : β → Value} {QS : β → List HP}
    (h : Does Try.prog f args pre' (RetE pp V PS)) (h1 : ∀ g w F, SL g (pre ++ F) w → SL g (pre' ++ (K ++ F)) w) (h2 : ∀ x, pp x → ∀ g w F, SL g (PS x ++ (K ++ F)) w → ∃ y, q y ∧ V x = V' y ∧ SL g (QS y ++ F) w) : Does Try.prog f args pre (RetE q V' QS) := by
  constructor
  intro g F w hS cs
  obtain ⟨e, w', fr, ⟨v, ps, ⟨x, hx, rfl, rfl⟩, rfl, h3⟩, h4⟩ := h.run g (K ++ F) w (h1 _ _ _ hS) cs
  obtain ⟨y, hy, hv, hs⟩ := h2 x hx _ _ _ h3
  exact ⟨_, w', fr, ⟨_, _, ⟨y, hy, hv, rfl⟩, rfl, hs⟩, h4⟩
theorem ret_e {f : FuncId} {args : List Value} {pre ps : List HP} {v : Value} (h : Does Try.prog f args pre (Ret v ps)) : Does Try.prog f args pre (RetE (fun _ : Unit => True) (fun _ => v) (fun _ => ps)) :=
  h.mono fun _ _ ⟨e1, e2⟩ => ⟨(), trivial, e1, e2⟩
/-- The world as it must be, behind so many steps. -/
structure Wok (n : Nat) (W : Wst) : Prop where
  t : W.TT.length ≤ n
  ok : ∀ i, i < W.TT.length → (W.TT.getD i default).r.length ≤ 64 ∧ (W.TT.getD i default).s.length ≤ 8
  fr : Fresh W.Fr W.Wa
  mkd : Marked W.Ls W.Ms
  l : W.Ls.length + 4 * W.Fr.length ≤ 8 * n
section
variable {wb : Nat} {W : Wst} {n : Nat} (h : Wok n W) (hn : n ≤ 10000000) (o : Sp)
include h hn
theorem Wok.same (W : Wst) (h : Wok n W) : Wok (n + 1) W := ⟨by have := h.t; omega, h.ok, h.fr, h.mkd, by have := h.l; omega⟩
/-- One thing goes on. -/
theorem step_thing (i : Nat) (hi : i < W.TT.length) (r' : List (Int × Bool)) (s' : List Int) (hr : r'.length ≤ 64) (hs : s'.length ≤ 8)
    (hd : Does Try.prog 19 [.pointer (some ⟨wb, 0, none⟩), spV o] [WRow wb W, TH W.la W.lc (W.TT.map xy), SchedP ((W.TT.map xy).getD i default).1 (W.TT.getD i default).r (W.TT.getD i default).s, RefP ((W.TT.map xy).getD i default).2 (W.TT.getD i default).r (W.TT.getD i default).s]
      (Ret (.bool true) [WRow wb W, TH W.la W.lc (W.TT.map xy), SchedP ((W.TT.map xy).getD i default).1 r' s', RefP ((W.TT.map xy).getD i default).2 r' s'])) :
    Does Try.prog 19 [.pointer (some ⟨wb, 0, none⟩), spV o] [WS wb W] (RetE (fun W' : Wst => Wok (n + 1) W' ∧ W'.Fr = W.Fr) (fun _ => .bool true) (fun W' => [WS wb W'])) := by
  have e : (W.TT.map xy).getD i default = xy (W.TT.getD i default) := by
    simp [List.getD_eq_getElem?_getD, hi]
  rw [e] at hd
  have em : (W.TT.set i ⟨(W.TT.getD i default).x, (W.TT.getD i default).y, r', s'⟩).map xy = W.TT.map xy := by
    rw [List.map_set]
    apply List.ext_getElem (by simp)
    intro j h1 h2
    rw [List.getElem_set]
    split
    · rename_i e2
      subst e2
      rw [List.getElem_map, List.getD_eq_getElem?_getD, List.getElem?_eq_getElem hi]; rfl
    · rfl
  refine does_conv (K := [starL thP (W.TT.eraseIdx i), FH W.fa W.fc W.Fr, starL frP W.Fr, IH W.wa W.wc W.Wa, starL ihP W.Wa, IH W.xa W.xc W.Ls, starL ihP W.Ls, SP W.ma W.mc W.Ms]) (ret_e hd) (fun g w F hS => ?_) fun _ _ g w F hS => ⟨{ W with TT := W.TT.set i ⟨(W.TT.getD i default).x, (W.TT.getD i default).y, r', s'⟩ }, ⟨⟨by rw [List.length_set]; have := h.t; omega, fun j hj => ?_, h.fr, h.mkd, by show W.Ls.length + 4 * W.Fr.length ≤ 8 * (n + 1); have := h.l; omega⟩, rfl⟩, rfl, ?_⟩
  · have h1 := ws_open hS
    have h2 : SL g (starL thP W.TT :: WRow wb W :: TH W.la W.lc (W.TT.map xy) :: FH W.fa W.fc W.Fr :: starL frP W.Fr :: IH W.wa W.wc W.Wa :: starL ihP W.Wa :: IH W.xa W.xc W.Ls :: starL ihP W.Ls :: SP W.ma W.mc W.Ms :: F) w := sl_keep [2, 0, 1, 3, 4, 5, 6, 7, 8, 9] rfl h1
    have h3 := starL_take default hi h2
    have h4 := SL.flat.1 h3
    exact sl_keep (L := [SchedP (W.TT.getD i default).x (W.TT.getD i default).r (W.TT.getD i default).s, RefP (W.TT.getD i default).y (W.TT.getD i default).r (W.TT.getD i default).s, starL thP (W.TT.eraseIdx i), WRow wb W, TH W.la W.lc (W.TT.map xy), FH W.fa W.fc W.Fr, starL frP W.Fr, IH W.wa W.wc W.Wa, starL ihP W.Wa, IH W.xa W.xc W.Ls, starL ihP W.Ls, SP W.ma W.mc W.Ms]) [3, 4, 0, 1, 2, 5, 6, 7, 8, 9, 10, 11] rfl h4
  · have hj : j < W.TT.length := by simpa using hj
    show ((W.TT.set i _).getD j default).r.length ≤ 64 ∧ ((W.TT.set i _).getD j default).s.length ≤ 8
    by_cases e2 : j = i
    · subst e2
      rw [List.getD_eq_getElem?_getD, List.getElem?_set_self hi]
      exact ⟨hr, hs⟩
    · rw [List.getD_eq_getElem?_getD, List.getElem?_set_ne (fun e3 => e2 e3.symm), ← List.getD_eq_getElem?_getD]
      exact h.ok j hj
  · refine ws_shut ?_
    have h1 : SL g ([SchedP (W.TT.getD i default).x r' s', RefP (W.TT.getD i default).y r' s'] ++ (starL thP (W.TT.eraseIdx i) :: WRow wb W :: TH W.la W.lc (W.TT.map xy) :: FH W.fa W.fc W.Fr :: starL frP W.Fr :: IH W.wa W.wc W.Wa :: starL ihP W.Wa :: IH W.xa W.xc W.Ls :: starL ihP W.Ls :: SP W.ma W.mc W.Ms :: F)) w := sl_keep (L := [WRow wb W, TH W.la W.lc (W.TT.map xy), SchedP (W.TT.getD i default).x r' s', RefP (W.TT.getD i default).y r' s', starL thP (W.TT.eraseIdx i), FH W.fa W.fc W.Fr, starL frP W.Fr, IH W.wa W.wc W.Wa, starL ihP W.Wa, IH W.xa W.xc W.Ls, starL ihP W.Ls, SP W.ma W.mc W.Ms]) [2, 3, 4, 0, 1, 5, 6, 7, 8, 9, 10, 11] rfl hS
    have h2 : SL g (thP ⟨(W.TT.getD i default).x, (W.TT.getD i default).y, r', s'⟩ :: starL thP (W.TT.eraseIdx i) :: _) w := SL.flat.2 h1
    have h3 := starL_put hi h2
    obtain ⟨T', hT'⟩ : ∃ T', W.TT.set i ⟨(W.TT.getD i default).x, (W.TT.getD i default).y, r', s'⟩ = T' := ⟨_, rfl⟩
    rw [hT'] at h3 em ⊢
    have eW : WRow wb { W with TT := T' } = WRow wb W := by
      show row wb 50 [.slice W.la (T'.map xy).length W.lc, _, _, _, _] = _
      rw [em]
    show SL g ([WRow wb { W with TT := T' }, TH W.la W.lc (T'.map xy), starL thP T', FH W.fa W.fc W.Fr, starL frP W.Fr, IH W.wa W.wc W.Wa, starL ihP W.Wa, IH W.xa W.xc W.Ls, starL ihP W.Ls, SP W.ma W.mc W.Ms] ++ F) w
    rw [eW, em]
    exact sl_keep (L := [starL thP T', WRow wb W, TH W.la W.lc (W.TT.map xy), FH W.fa W.fc W.Fr, starL frP W.Fr, IH W.wa W.wc W.Wa, starL ihP W.Wa, IH W.xa W.xc W.Ls, starL ihP W.Ls, SP W.ma W.mc W.Ms]) [1, 2, 0, 3, 4, 5, 6, 7, 8, 9] rfl h3
end
end Go.Proofs.Ytijjficnhpokdaa
