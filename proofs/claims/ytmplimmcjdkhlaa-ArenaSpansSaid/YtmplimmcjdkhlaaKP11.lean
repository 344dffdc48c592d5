/- The arena package: a class of two buffers: Store. -/
import Derived.Test.YtmplimmcjdkhlaaKP10
import Derived.Test.YtmplimmcjdkhlaaKS
namespace Go.Proofs.Ytmplimmcjdkhlaa
open Go.Sl Go.Xg
set_option linter.unusedVariables false
set_option linter.unusedSimpArgs false
set_option linter.unnecessarySimpa false
set_option maxHeartbeats 4000000
set_option maxRecDepth 100000

section
variable {P : Program} {g : World} {F : List HP} {T : List Value} {L : List HP} {K : List Value → List HP → Prop}
/-- copy into nil. -/
theorem opx_copy_none {d : Nat} {dT sT ty elem : TypeId} {x y : Operand} {pos : String} {after : Array Edge} {gd : Option (Nat × Bool)} {sa : Option Addr} {m sc by_ : Nat} {kd : IntKind}
    (hu : slTy P dT elem = true) (hE : intTy P elem kd by_ = true) (hx : ev T x = .slice none 0 0) (hy : ev T y = .slice sa m sc)
    (h : K (T.set d (.int .i64 0)) L) :
    OpX P g F { dst := some d, op := .call { callee := .builtin .copy, args := #[x, y], argTypes := #[dT, sT] }, type := ty, pos, after, guard := gd } T L K := by
  constructor
  intro w hS
  obtain ⟨i, hi, hz, hsz, rfl, hzs⟩ := intTy_el hE
  have hR : Rd w 1 (.slice sa 0 sc) 0 [] := ⟨sa, sc, rfl, rfl, fun j u hu => by simp at hu⟩
  have hf := hR.first (P := P)
  have hr : (Builtin.copy_ #[dT, sT] ty #[.slice none 0 0, .slice sa m sc]).run P w = .ok (goInt 0) w := by
    have hf' : (Builtin.firstCells 1 0 (.slice sa m sc)).run P w = .ok #[] w := by
      cases sa <;> exact hf
    simp [Builtin.copy_, run_underlying (slTy_u hu), Builtin.lenOf, sizeOf, typeInfo, hi, hsz, hf']
  exact op_value (exec_copy _ (by rw [act_eval, act_eval, hx, hy]; exact hr)) ⟨_, _, by rw [act_put]; rfl, hS, h⟩
end

section
variable (p ab r : Nat) (ca : Option Addr) (cc : Nat) (ba : Option Addr) (bc n : Nat) (hn : 1 ≤ n) (hn3 : n ≤ 300) (q u : Int) (xa ya ta : Option Addr) (tc : Nat)
include hn hn3
theorem store_ok (A : HP) (sa : Option Addr) (sc : Nat) (at0 k : Nat) (hk : at0 + k ≤ n) (xs ys : List Int) (hxs : xs.length = n) (hys : ys.length = k) (hR : Reads A 1 (.slice sa k sc) k (ys.map (Value.int .u8))) :
    Does Try.prog 18 [.pointer (some ⟨p, 0, none⟩), .int .i64 0, .int .i64 0, .int .i64 (at0 : Nat), .slice sa k sc] [H2 p ab ca cc ba bc, B2 ba bc (0, xa, n, n) (0, ya, n, n), A2 ab r, R2 r q u ta 2 tc, I2 ta tc [0, 1], Y2 xa n xs, A]
    (Ret (.int .i64 0) [H2 p ab ca cc ba bc, B2 ba bc (0, xa, n, n) (0, ya, n, n), A2 ab r, R2 r q u ta 2 tc, I2 ta tc [0, 1], Y2 xa n (xs.take at0 ++ ys ++ xs.drop (at0 + k)), A]) := by
  have hs := span_ok p ab r ca cc ba bc n hn hn3 q u xa ya ta tc 0 (by decide) at0 k hk
  rw [if_pos rfl] at hs
  have hl : (xs.take at0 ++ ys ++ xs.drop (at0 + k)).length = xs.length := by
    rw [List.length_append, List.length_append, List.length_take, List.length_drop]; omega
  (focus
    refine Xg.spec_of Go.Proofs.Try.func18 rfl Go.Proofs.Try.ntmps18 fun g F => ?_)
  (focus
    refine Xg.at_seq ?_
    refine Xg.at_region ?_
    refine Xg.ops_op (by kernel_rfl) (Xg.opx_pure ((iv 0)) rfl (fun _ => by kernel_rfl) ?_)
    refine Xg.ops_nil ?_
    refine Xg.at_seq ?_
    refine Xg.at_region ?_
    refine Xg.ops_op (by kernel_rfl) (Xg.opx_pure ((pv p 0)) rfl (fun _ => by kernel_rfl) ?_)
    refine Xg.ops_op (by kernel_rfl) (Xg.opx_pure ((iv 0)) rfl (fun _ => by kernel_rfl) ?_)
    refine Xg.ops_op (by kernel_rfl) (Xg.opx_pure ((iv 0)) rfl (fun _ => by kernel_rfl) ?_)
    refine Xg.ops_op (by kernel_rfl) (Xg.opx_pure ((iv (↑at0 : Int))) rfl (fun _ => by kernel_rfl) ?_)
    refine Xg.ops_op (by kernel_rfl) (Xg.opx_pure ((Value.slice sa k sc)) rfl (fun _ => by kernel_rfl) ?_)
    refine Xg.ops_op (by kernel_rfl) (Xg.opx_pure ((iv (↑k : Int))) rfl (fun _ => by kernel_rfl) ?_)
    refine Xg.ops_op (by kernel_rfl) (Xg.opx_call1' [0, 1, 2, 3, 4] [H2 p ab ca cc ba bc, B2 ba bc ((0 : Int), xa, n, n) ((0 : Int), ya, n, n), A2 ab r, R2 r q u ta (2 : Nat) tc, I2 ta tc [(0 : Int), (1 : Int)], Y2 xa n xs, A] (fun _ => by kernel_rfl) (@hs ) (by kernel_rfl) (by kernel_rfl) (by kernel_rfl) ?_)
    refine Xg.ops_op (by kernel_rfl) (Xg.opx_pure ((Value.tuple #[Value.slice (subA xa (at0 + k) at0 (1 : Nat)) k k, iv 0])) rfl (fun _ => by kernel_rfl) ?_)
    refine Xg.ops_op (by kernel_rfl) (Xg.opx_pure ((Value.slice (subA xa (at0 + k) at0 (1 : Nat)) k k)) rfl (fun _ => by kernel_rfl) ?_)
    refine Xg.ops_op (by kernel_rfl) (Xg.opx_pure ((iv 0)) rfl (fun _ => by kernel_rfl) ?_)
    refine Xg.ops_op (by kernel_rfl) (Xg.opx_pure ((Value.slice (subA xa (at0 + k) at0 (1 : Nat)) k k)) rfl (fun _ => by kernel_rfl) ?_)
    refine Xg.ops_op (by kernel_rfl) (Xg.opx_pure ((iv 0)) rfl (fun _ => by kernel_rfl) ?_)
    refine Xg.ops_nil ?_
    refine Xg.at_seq ?_
    refine Xg.at_region ?_
    refine Xg.ops_op (by kernel_rfl) (Xg.opx_pure ((Value.slice (subA xa (at0 + k) at0 (1 : Nat)) k k)) rfl (fun _ => by kernel_rfl) ?_)
    refine Xg.ops_op (by kernel_rfl) (Xg.opx_pure ((Value.slice sa k sc)) rfl (fun _ => by kernel_rfl) ?_))
  by_cases hk0 : k = 0
  · subst hk0
    have hy0 : ys = [] := List.length_eq_zero_iff.1 hys
    rw [show xs.take at0 ++ ys ++ xs.drop (at0 + 0) = xs from by rw [hy0, List.append_nil, Nat.add_zero, List.take_append_drop]]
    refine Xg.ops_op (by kernel_rfl) (Xg.opx_copy_in (elem := 5) (kd := .u8) (xs := xs) (ys := ys) (a := xa) (c := n) (ax := Xg.subA xa (at0 + 0) at0 1) (cx := 0) (yv := .slice sa 0 sc) 5 1 0 0 xs 0 rfl (by kernel_rfl) (by kernel_rfl) (by kernel_rfl) (fun b e => by unfold subA; rw [if_pos (Nat.add_zero _), e]) (by kernel_rfl) (fun w hS => by rw [hys]; exact reads_rd hR 6 rfl hS) (by omega) (by omega) (by rw [hy0]; simp) rfl (by rw [hys]; rfl) ?_)
    (focus
      refine Xg.ops_nil ?_
      refine Xg.at_seq ?_
      refine Xg.at_region ?_
      refine Xg.ops_op (by kernel_rfl) (Xg.opx_pure ((iv 0)) rfl (fun _ => by kernel_rfl) ?_)
      refine Xg.ops_op (by kernel_rfl) (Xg.opx_pure ((iv 0)) rfl (fun _ => by kernel_rfl) ?_)
      refine Xg.ops_nil ?_
      refine Xg.at_ret_ps (v := (iv 0)) [0, 1, 2, 3, 4, 5, 6] [H2 p ab ca cc ba bc, B2 ba bc ((0 : Int), xa, n, n) ((0 : Int), ya, n, n), A2 ab r, R2 r q u ta (2 : Nat) tc, I2 ta tc [(0 : Int), (1 : Int)], ints (5 : TypeId) IntKind.u8 xa n xs, A] Go.Proofs.Try.func18 (fun _ => by kernel_rfl) (by kernel_rfl) (by kernel_rfl) ?_
      exact ⟨by kernel_rfl, by kernel_rfl⟩)
  · refine Xg.ops_op (by kernel_rfl) (Xg.opx_copy_in (elem := 5) (kd := .u8) (xs := xs) (ys := ys) (a := xa) (c := n) (ax := Xg.subA xa (at0 + k) at0 1) (cx := k) (yv := .slice sa k sc) 5 1 at0 k (xs.take at0 ++ ys ++ xs.drop (at0 + k)) k rfl (by kernel_rfl) (by kernel_rfl) (by kernel_rfl) (fun b e => by rw [e]; exact sub_at (by omega)) (by kernel_rfl) (fun w hS => by rw [hys]; exact reads_rd hR 6 rfl hS) (by omega) (by omega) (by rw [hys, Nat.min_self, List.take_of_length_le (l := ys) (by omega)]) hl (by rw [hys, Nat.min_self]) ?_)
    (focus
      refine Xg.ops_nil ?_
      refine Xg.at_seq ?_
      refine Xg.at_region ?_
      refine Xg.ops_op (by kernel_rfl) (Xg.opx_pure ((iv 0)) rfl (fun _ => by kernel_rfl) ?_)
      refine Xg.ops_op (by kernel_rfl) (Xg.opx_pure ((iv 0)) rfl (fun _ => by kernel_rfl) ?_)
      refine Xg.ops_nil ?_
      refine Xg.at_ret_ps (v := (iv 0)) [0, 1, 2, 3, 4, 5, 6] [H2 p ab ca cc ba bc, B2 ba bc ((0 : Int), xa, n, n) ((0 : Int), ya, n, n), A2 ab r, R2 r q u ta (2 : Nat) tc, I2 ta tc [(0 : Int), (1 : Int)], ints (5 : TypeId) IntKind.u8 xa n (List.take at0 xs ++ ys ++ List.drop (at0 + k) xs), A] Go.Proofs.Try.func18 (fun _ => by kernel_rfl) (by kernel_rfl) (by kernel_rfl) ?_
      exact ⟨by kernel_rfl, by kernel_rfl⟩)
theorem store_err (A : HP) (sa : Option Addr) (sc : Nat) (at0 : Int) (k : Nat) (hk : 1 ≤ k) (hk1 : k ≤ 10) (h : at0 = n) (ys : List Int) (hys : ys.length = k) (hR : Reads A 1 (.slice sa k sc) k (ys.map (Value.int .u8))) :
    Does Try.prog 18 [.pointer (some ⟨p, 0, none⟩), .int .i64 0, .int .i64 0, .int .i64 at0, .slice sa k sc] [H2 p ab ca cc ba bc, B2 ba bc (0, xa, n, n) (0, ya, n, n), A2 ab r, R2 r q u ta 2 tc, I2 ta tc [0, 1], A]
    (Ret (.int .i64 98) [H2 p ab ca cc ba bc, B2 ba bc (0, xa, n, n) (0, ya, n, n), A2 ab r, R2 r q u ta 2 tc, I2 ta tc [0, 1], A]) := by
  have hs := span_err p ab r ca cc ba bc n hn hn3 q u xa ya ta tc at0 k (by omega) (by omega) (by omega)
  (focus
    refine Xg.spec_of Go.Proofs.Try.func18 rfl Go.Proofs.Try.ntmps18 fun g F => ?_)
  (focus
    refine Xg.at_seq ?_
    refine Xg.at_region ?_
    refine Xg.ops_op (by kernel_rfl) (Xg.opx_pure ((iv 0)) rfl (fun _ => by kernel_rfl) ?_)
    refine Xg.ops_nil ?_
    refine Xg.at_seq ?_
    refine Xg.at_region ?_
    refine Xg.ops_op (by kernel_rfl) (Xg.opx_pure ((pv p 0)) rfl (fun _ => by kernel_rfl) ?_)
    refine Xg.ops_op (by kernel_rfl) (Xg.opx_pure ((iv 0)) rfl (fun _ => by kernel_rfl) ?_)
    refine Xg.ops_op (by kernel_rfl) (Xg.opx_pure ((iv 0)) rfl (fun _ => by kernel_rfl) ?_)
    refine Xg.ops_op (by kernel_rfl) (Xg.opx_pure ((iv at0)) rfl (fun _ => by kernel_rfl) ?_)
    refine Xg.ops_op (by kernel_rfl) (Xg.opx_pure ((Value.slice sa k sc)) rfl (fun _ => by kernel_rfl) ?_)
    refine Xg.ops_op (by kernel_rfl) (Xg.opx_pure ((iv (↑k : Int))) rfl (fun _ => by kernel_rfl) ?_)
    refine Xg.ops_op (by kernel_rfl) (Xg.opx_call1' [0, 1, 2, 3, 4] [H2 p ab ca cc ba bc, B2 ba bc ((0 : Int), xa, n, n) ((0 : Int), ya, n, n), A2 ab r, R2 r q u ta (2 : Nat) tc, I2 ta tc [(0 : Int), (1 : Int)], A] (fun _ => by kernel_rfl) (@hs ) (by kernel_rfl) (by kernel_rfl) (by kernel_rfl) ?_)
    refine Xg.ops_op (by kernel_rfl) (Xg.opx_pure ((Value.tuple #[Value.slice none (0 : Nat) (0 : Nat), iv 98])) rfl (fun _ => by kernel_rfl) ?_)
    refine Xg.ops_op (by kernel_rfl) (Xg.opx_pure ((Value.slice none (0 : Nat) (0 : Nat))) rfl (fun _ => by kernel_rfl) ?_)
    refine Xg.ops_op (by kernel_rfl) (Xg.opx_pure ((iv 98)) rfl (fun _ => by kernel_rfl) ?_)
    refine Xg.ops_op (by kernel_rfl) (Xg.opx_pure ((Value.slice none (0 : Nat) (0 : Nat))) rfl (fun _ => by kernel_rfl) ?_)
    refine Xg.ops_op (by kernel_rfl) (Xg.opx_pure ((iv 98)) rfl (fun _ => by kernel_rfl) ?_)
    refine Xg.ops_nil ?_
    refine Xg.at_seq ?_
    refine Xg.at_region ?_
    refine Xg.ops_op (by kernel_rfl) (Xg.opx_pure ((Value.slice none (0 : Nat) (0 : Nat))) rfl (fun _ => by kernel_rfl) ?_)
    refine Xg.ops_op (by kernel_rfl) (Xg.opx_pure ((Value.slice sa k sc)) rfl (fun _ => by kernel_rfl) ?_))
  refine Xg.ops_op (by kernel_rfl) (opx_copy_none (elem := 5) (kd := .u8) (by_ := 1) (sa := sa) (m := k) (sc := sc) (by kernel_rfl) (by kernel_rfl) (by kernel_rfl) (by kernel_rfl) ?_)
  (focus
    refine Xg.ops_nil ?_
    refine Xg.at_seq ?_
    refine Xg.at_region ?_
    refine Xg.ops_op (by kernel_rfl) (Xg.opx_pure ((iv 98)) rfl (fun _ => by kernel_rfl) ?_)
    refine Xg.ops_op (by kernel_rfl) (Xg.opx_pure ((iv 98)) rfl (fun _ => by kernel_rfl) ?_)
    refine Xg.ops_nil ?_
    refine Xg.at_ret_ps (v := (iv 98)) [0, 1, 2, 3, 4, 5] [H2 p ab ca cc ba bc, B2 ba bc ((0 : Int), xa, n, n) ((0 : Int), ya, n, n), A2 ab r, R2 r q u ta (2 : Nat) tc, I2 ta tc [(0 : Int), (1 : Int)], A] Go.Proofs.Try.func18 (fun _ => by kernel_rfl) (by kernel_rfl) (by kernel_rfl) ?_
    exact ⟨by kernel_rfl, by kernel_rfl⟩)
end
end Go.Proofs.Ytmplimmcjdkhlaa
