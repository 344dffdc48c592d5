/- The sched package: New; the law's helpers. -/
import Derived.Test.YtijjficnhpokdaaKP8
import Derived.Test.YtijjficnhpokdaaKS
namespace Go.Proofs.Ytijjficnhpokdaa
open Go.Sl Go.Xg
set_option linter.unusedVariables false
set_option linter.unusedSimpArgs false
set_option maxHeartbeats 4000000
set_option maxRecDepth 100000

theorem does_weak {f : FuncId} {args : List Value} {pre : List HP} {α β : Type} {p : α → Prop} {V : α → Value} {PS : α → List HP} {q : β → Prop} {V' : β → Value} {QS : β → List HP} (h : Does Try.prog f args pre (RetE p V PS))
    (hw : ∀ x, p x → ∃ y, q y ∧ V x = V' y ∧ ∀ g w L, SL g (PS x ++ L) w → SL g (QS y ++ L) w) : Does Try.prog f args pre (RetE q V' QS) := by
  constructor
  intro g F w hS cs
  obtain ⟨e, w', fr, ⟨v, ps, ⟨x, hx, rfl, rfl⟩, rfl, h2⟩, h3⟩ := h.run g F w hS cs
  obtain ⟨y, hy, hv, hs⟩ := hw x hx
  exact ⟨_, w', fr, ⟨_, _, ⟨y, hy, hv, rfl⟩, rfl, hs _ _ _ h2⟩, h3⟩

theorem new_d (k : Nat) (h1 : 1 ≤ k) (h8 : k ≤ 8) : Does Try.prog 25 [.int .i64 (k : Nat)] [] (RetE (fun p : Nat => True) (fun p => .tuple #[.pointer (some ⟨p, 0, none⟩), .int .i64 0]) (fun p => [SchedP p [] (List.replicate k (-1))])) := by
  have hr := fun b => repeat_d b k h1 h8
  obtain ⟨l, hl⟩ : ∃ l, List.replicate k (-1 : Int) = l := ⟨_, rfl⟩
  rw [hl] at hr ⊢
  have h0 : Does Try.prog 25 [.int .i64 (k : Nat)] [] (RetE (fun x : Nat × Option Addr × Nat => True) (fun x => .tuple #[.pointer (some ⟨x.1, 0, none⟩), .int .i64 0]) (fun x => [row x.1 62 [.slice none 0 0, .slice x.2.1 l.length x.2.2], ints 3 .i64 x.2.1 x.2.2 l])) := by
    (focus
      refine Xg.spec_of Go.Proofs.Try.func25 rfl Go.Proofs.Try.ntmps25 fun g F => ?_)
    (focus
      refine Xg.at_seq ?_
      refine Xg.at_region ?_
      refine Xg.ops_op (by kernel_rfl) (Xg.opx_pure ((Value.pointer none)) rfl (fun _ => by kernel_rfl) ?_)
      refine Xg.ops_op (by kernel_rfl) (Xg.opx_pure ((iv 0)) rfl (fun _ => by kernel_rfl) ?_)
      refine Xg.ops_nil ?_
      refine Xg.at_seq ?_
      refine Xg.at_seq ?_
      refine Xg.at_region ?_
      refine Xg.ops_op (by kernel_rfl) (Xg.opx_pure ((iv (↑k : Int))) rfl (fun _ => by kernel_rfl) ?_)
      refine Xg.ops_op (by kernel_rfl) (Xg.opx_pure (.bool (decide ((((↑k : Int)) : Int) < ((1 : Int))))) rfl (fun _ => by kernel_rfl) ?_)
      refine Xg.ops_op (by kernel_rfl) (Xg.opx_pure ((Value.bool (decide ((↑k : Int) < (1 : Int))))) rfl (fun _ => by kernel_rfl) ?_)
      refine Xg.ops_flag (j := 6) (c := (decide ((↑k : Int) < (1 : Int)))) (by kernel_rfl) (fun xh1 => absurd (of_decide_eq_true xh1) (by omega)) (fun _ => ?_)
      refine Xg.ops_op (by kernel_rfl) (Xg.opx_pure ((iv (↑k : Int))) rfl (fun _ => by kernel_rfl) ?_)
      refine Xg.ops_op (by kernel_rfl) (Xg.opx_pure (.bool (decide ((((↑k : Int)) : Int) > ((8 : Int))))) rfl (fun _ => by kernel_rfl) ?_)
      refine Xg.ops_flag (j := 8) (c := (decide ((↑k : Int) > (8 : Int)))) (by kernel_rfl) (fun xh1 => absurd (of_decide_eq_true xh1) (by omega)) (fun _ => ?_)
      refine Xg.ops_op (by kernel_rfl) (Xg.opx_pure ((Value.bool false)) rfl (fun _ => by kernel_rfl) ?_)
      refine Xg.ops_nil ?_
      refine Xg.at_false (t := false) (by kernel_rfl) rfl ?_
      refine Xg.at_skip ?_
      refine Xg.at_seq ?_
      refine Xg.at_region ?_
      refine Xg.ops_op (by kernel_rfl) (Xg.opx_bs (elem := 3) 1 [iv (-1)] [iv (-1)] (by kernel_rfl) (by kernel_rfl) (by decide) rfl (by kernel_rfl) (by kernel_rfl) (by kernel_rfl) (by kernel_rfl) fun xb1 => ?_)
      refine Xg.ops_op (by kernel_rfl) (Xg.opx_pure ((iv (↑k : Int))) rfl (fun _ => by kernel_rfl) ?_)
      refine Xg.ops_op (by kernel_rfl) (Xg.opx_callE' [0] (fun xx1 => [ints (3 : TypeId) IntKind.i64 xx1.fst xx1.snd l]) (fun _ => by kernel_rfl) (@hr (xb1)) (by kernel_rfl) (by kernel_rfl) (by kernel_rfl) fun xx1 xh1 => ?_)
      try dsimp only at xh1
      refine Xg.ops_op (by kernel_rfl) (Xg.opx_pure ((Value.agg #[Value.slice none (0 : Nat) (0 : Nat), Value.slice xx1.fst l.length xx1.snd])) rfl (fun _ => by kernel_rfl) ?_)
      refine Xg.ops_op (by kernel_rfl) (Xg.opx_box (v := (Value.agg #[Value.slice none (0 : Nat) (0 : Nat), Value.slice xx1.fst l.length xx1.snd])) [Value.slice none (0 : Nat) (0 : Nat), Value.slice xx1.fst l.length xx1.snd] (by kernel_rfl) (by kernel_rfl) fun xb2 => ?_)
      refine Xg.ops_op (by kernel_rfl) (Xg.opx_pure ((pv xb2 0)) rfl (fun _ => by kernel_rfl) ?_)
      refine Xg.ops_op (by kernel_rfl) (Xg.opx_pure ((iv 0)) rfl (fun _ => by kernel_rfl) ?_)
      refine Xg.ops_nil ?_
      refine Xg.at_ret_ps (v := (Value.tuple #[pv xb2 0, iv 0])) [0, 1] [row xb2 (62 : Nat) [Value.slice none (0 : Nat) (0 : Nat), Value.slice xx1.fst l.length xx1.snd], ints (3 : TypeId) IntKind.i64 xx1.fst xx1.snd l] Go.Proofs.Try.func25 (fun _ => by kernel_rfl) (by kernel_rfl) (by kernel_rfl) ?_
      refine ⟨((xb2, xx1.fst, xx1.snd)), trivial, by kernel_rfl, ?_⟩)
    rfl
  refine does_weak h0 fun x _ => ⟨x.1, trivial, rfl, fun g w L hS => ?_⟩
  exact sched_shut (ra := none) (rc := 0) (hS.own_nil 65 2 |>.perm (.swap _ _ _))
end Go.Proofs.Ytijjficnhpokdaa
