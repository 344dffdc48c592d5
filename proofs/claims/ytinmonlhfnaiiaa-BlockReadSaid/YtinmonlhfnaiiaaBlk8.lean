/- The block package's functions: contracts over separation lists (part 8): what is refused; Limit. -/
import Derived.Test.YtinmonlhfnaiiaaBlk7
namespace Go.Proofs.Ytinmonlhfnaiiaa
open Go.Sl Go.RowKit
set_option linter.unusedVariables false
set_option linter.unusedSimpArgs false

def St.limit (σ : St) (n : Int) : St := { σ with limited := true, left := max n 0 }

theorem limit_wf {σ : St} (h : σ.Wf) (n : Int) (hn : n ≤ 9223372036854775807) : (σ.limit n).Wf :=
  ⟨h.n1, h.n2, h.len, h.pend, h.many, by show _ ≤ max n 0 ∧ max n 0 ≤ _; omega⟩

theorem limit_c {g w : World} {L : List HP} (p : Nat) (σ : St) (n : Int) (h1 : -9223372036854775808 ≤ n) (h2 : n ≤ 9223372036854775807) (hS : SL g (StoreP p σ :: L) w) :
    Calls Try.prog 24 #[.pointer (some ⟨p, 0, none⟩), .int .i64 n] w fun e w' => e = .returned (.tuple #[]) ∧ SL g (StoreP p (σ.limit n) :: L) w' := by
  obtain ⟨hw, sv, pv, ds, hds, hpv, hS⟩ := st_open hS
  have Hw := Lib.hid (limit_wf hw n h2); have Hds := Lib.hid hds; have Hpv := Lib.hid hpv; clear hw hds hpv
  go_enter Try.func24, Try.ntmps24
  go_wp2_with (first | ((with_reducible show wpList _ _ _ (Oper.mk _ (Op.store _ _ _) _ _ _ _ :: _) _ _); refine wpList_plain rfl (fun K hK => ?_); refine w_store hS 0 rfl rfl rfl El4 rfl (Nat.le_of_ble_eq_true rfl) ?_; clear hS; intro w hS; try simp only [ev, nth, Option.getD_some, Option.getD_none] at hS; refine hK _ _ ?_; clear hK K) | ((with_reducible show wpList _ _ _ (Oper.mk _ (Op.store _ _ _) _ _ _ _ :: _) _ _); refine wpList_plain rfl (fun K hK => ?_); refine w_store hS 0 rfl rfl rfl El3 rfl (Nat.le_of_ble_eq_true rfl) ?_; clear hS; intro w hS; try simp only [ev, nth, Option.getD_some, Option.getD_none] at hS; refine hK _ _ ?_; clear hK K))
  · go_end0
    refine ⟨rfl, st_shut (sv := sv) Hw.out Hds.out Hpv.out ?_⟩
    have e : (σ.limit n).left = 0 := by show max n 0 = 0; omega
    rw [e]
    rw [if_pos h] at hS
    exact hS
  · go_end0
    refine ⟨rfl, st_shut (sv := sv) Hw.out Hds.out Hpv.out ?_⟩
    have e : (σ.limit n).left = n := by show max n 0 = n; omega
    rw [e]
    rw [if_neg (by omega)] at hS
    exact hS

theorem readno_c {g w : World} {L : List HP} (p : Nat) (σ : St) (n : Int) (h : n < 0 ∨ (σ.n : Int) ≤ n) (hS : SL g (StoreP p σ :: L) w) :
    Calls Try.prog 17 #[.pointer (some ⟨p, 0, none⟩), .int .i64 n] w fun e w' => e = .returned (.tuple #[.slice none 0 0, .int .i64 1]) ∧ SL g (StoreP p σ :: L) w' := by
  have HI := Lib.hid (fun (w : World) (L : List HP) (hS : SL g (StoreP p σ :: L) w) => is_c p σ n false (by symm; rw [decide_eq_false_iff_not]; omega) hS)
  clear h
  go_enter Try.func17, Try.ntmps17
  go_wp2_with (first | (((with_reducible show wpList _ _ _ (Oper.mk _ (Op.box _ _) _ _ _ _ :: _) _ _); refine wpList_plain rfl (fun K hK => ?_); refine w_box hS rfl rfl ?_; clear hS; intro bn w hS l' hl; simp only [List.set_cons_succ, List.set_cons_zero] at hl; subst hl; try simp only [ev, nth, Option.getD_some, Option.getD_none] at hS; refine hK _ _ ?_; clear hK K); have hcn := hS.cell (b := bn) (.head _) 0; simp only [List.getElem?_cons_zero] at hcn) | (go_at_call 28; refine (HI.out _ _ (hS.pull 1)).mono ?_; rintro e w' ⟨rfl, rfl⟩))
  go_ret2
  exact ⟨rfl, hS.tail⟩

theorem wno_c {g w : World} {L : List HP} (p : Nat) (σ : St) (n : Int) (a : Option Addr) (len c : Nat) (h : n < 0 ∨ (σ.n : Int) ≤ n ∨ len ≠ 512) (hlen : len ≤ 9223372036854775807) (hS : SL g (StoreP p σ :: L) w) :
    Calls Try.prog 12 #[.pointer (some ⟨p, 0, none⟩), .int .i64 n, .slice a len c] w fun e w' => e = .returned (.int .i64 1) ∧ w = w' := by
  by_cases hn : 0 ≤ n ∧ n < (σ.n : Int)
  · have HI := Lib.hid (is_c p σ n true (by symm; rw [decide_eq_true_eq]; omega) hS)
    have hl : ((len : Int) == 512) = false := by rw [beq_eq_false_iff_ne]; omega
    clear h hS hn
    go_enter Try.func12, Try.ntmps12
    go_wp2_with (go_at_call 28; refine HI.out.mono ?_; rintro e w' ⟨rfl, rfl⟩)
    go_ret
    exact ⟨rfl, rfl⟩
  · have HI := Lib.hid (is_c p σ n false (by symm; rw [decide_eq_false_iff_not]; omega) hS)
    clear h hS hn
    go_enter Try.func12, Try.ntmps12
    go_wp2_with (go_at_call 28; refine HI.out.mono ?_; rintro e w' ⟨rfl, rfl⟩)
    go_ret
    exact ⟨rfl, rfl⟩

theorem wfull_c {g w : World} {L : List HP} (p : Nat) (σ : St) (n : Int) (a : Option Addr) (c : Nat) (hn : 0 ≤ n ∧ n < (σ.n : Int)) (h1 : σ.limited = true) (h2 : σ.left = 0) (hS : SL g (StoreP p σ :: L) w) :
    Calls Try.prog 12 #[.pointer (some ⟨p, 0, none⟩), .int .i64 n, .slice a 512 c] w fun e w' => e = .returned (.int .i64 101) ∧ w = w' := by
  have HI := Lib.hid (is_c p σ n true (by symm; rw [decide_eq_true_eq]; omega) hS)
  obtain ⟨hw, sv, pv, ds, hds, hpv, hS⟩ := st_open hS
  rw [h1, h2] at hS
  have hcl := hS.cell (b := p) (.head _) 2
  have hcf := hS.cell (b := p) (.head _) 3
  simp only [List.getElem?_cons_zero, List.getElem?_cons_succ] at hcl hcf
  clear h1 h2 hS hn hw hds hpv
  go_enter Try.func12, Try.ntmps12
  go_wp2_with (go_at_call 28; refine HI.out.mono ?_; rintro e w' ⟨rfl, rfl⟩)
  go_ret
  exact ⟨rfl, rfl⟩

end Go.Proofs.Ytinmonlhfnaiiaa
