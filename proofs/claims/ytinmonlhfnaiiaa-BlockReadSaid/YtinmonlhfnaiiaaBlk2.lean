/- The block package's functions: contracts over separation lists (part 2). -/
import Derived.Test.YtinmonlhfnaiiaaBlk1
namespace Go.Proofs.Ytinmonlhfnaiiaa
open Go.Sl Go.RowKit
set_option linter.unusedVariables false
set_option linter.unusedSimpArgs false

theorem sector_c (w : World) (b len cap k : Nat) (h1 : (k + 1) * 512 ≤ cap) (h2 : k ≤ 100000) :
    Calls Try.prog 30 #[.slice (some ⟨b, 0, none⟩) len cap, .int .i64 (k : Int)] w fun e w' => e = .returned (.slice (some ⟨b, k * 512, none⟩) 512 512) ∧ w = w' := by
  go_enter Try.func30, Try.ntmps30
  go_wp2
  go_ret
  refine ⟨?_, rfl⟩
  show Ending.returned (.slice _ ((k + 1) * 512 - k * 512) ((k + 1) * 512 - k * 512)) = _
  rw [show (k + 1) * 512 - k * 512 = 512 from by omega]

theorem clip_c (w : World) (a : Option Addr) (n cap : Nat) (h1 : n ≤ cap) (h2 : n ≤ 100000000) :
    Calls Try.prog 31 #[.slice a n cap] w fun e w' => e = .returned (.slice a n n) ∧ w = w' := by
  go_enter Try.func31, Try.ntmps31
  go_wp2
  go_ret
  exact ⟨rfl, rfl⟩

def newSt (k : Nat) : St := { n := k, safe := List.replicate (k * 512) 0, pend := [], limited := false, left := 0 }

theorem newSt_wf (k : Nat) (h1 : 1 ≤ k) (h2 : k ≤ 4096) : (newSt k).Wf :=
  ⟨h1, h2, by simp [newSt], by simp [newSt], by simp [newSt], by simp [newSt]⟩

theorem new_c {g w : World} {L : List HP} (k : Nat) (h1 : 1 ≤ k) (h2 : k ≤ 4096) (hS : SL g L w) :
    Calls Try.prog 22 #[.int .i64 (k : Int)] w fun e w' => ∃ p, e = .returned (.tuple #[.pointer (some ⟨p, 0, none⟩), .int .i64 0]) ∧ SL g (StoreP p (newSt k) :: L) w' := by
  go_enter Try.func22, Try.ntmps22
  go_wp2_with (first | (refine wpList_plain rfl (fun K hK => ?_); refine w_make El5 Try.underlying31 hS rfl rfl (by omega) (by omega) (by omega) (by unfold maxLen; omega) ?_; clear hS; intro b w hS l' hl; simp only [List.set_cons_succ, List.set_cons_zero] at hl; subst hl; refine hK _ _ ?_; clear hK K) | (refine wpList_plain rfl (fun K hK => ?_); refine w_box hS rfl rfl ?_; clear hS; intro p w hS l' hl; simp only [List.set_cons_succ, List.set_cons_zero] at hl; subst hl; try simp only [ev, nth, Option.getD_some, Option.getD_none] at hS; refine hK _ _ ?_; clear hK K))
  go_ret2
  refine ⟨p, rfl, st_shut (sv := .slice (some ⟨b, 0, none⟩) (k * 512) (k * 512)) (pv := .slice none 0 0) (ds := []) (newSt_wf k h1 h2) rfl (fun _ => rfl) ?_⟩
  have e1 : ((k : Int) * 512).toNat = k * 512 := by omega
  rw [e1] at hS
  have hS := hS.pull 1
  have e2 : (madeCells (Value.int IntKind.u8 0).cells (k * 512 * 1)).toList = u8s (newSt k).safe ++ [] := by
    rw [Nat.mul_one]; show (madeCells #[_] (k * 512)).toList = _; rw [toList_madeCells_one]; simp [u8s, newSt]
  have e3 : (newSt k).safe.length = k * 512 := by simp [newSt]
  have hS : SL g (row b 5 (u8s (newSt k).safe ++ []) :: row p 64 [.slice (some ⟨b, 0, none⟩) (k * 512) (k * 512), .slice none 0 0, .bool false, .int .i64 0] :: L) w := by
    rw [← e2]; exact hS
  have hS := SL.own_some (n := (newSt k).safe.length) (cap := k * 512) (sz := 1) hS (by rw [u8s_len]; omega) (by omega) (by unfold maxLen; omega) (by simp; omega)
  have hS : SL g (byS (.slice (some ⟨b, 0, none⟩) (k * 512) (k * 512)) (newSt k).safe :: row p 64 [.slice (some ⟨b, 0, none⟩) (k * 512) (k * 512), .slice none 0 0, .bool false, .int .i64 0] :: L) w := by
    rw [← e3]; rw [← e3] at hS; exact hS
  have hS : SL g (PendP (.slice none 0 0) [] [] :: byS (.slice (some ⟨b, 0, none⟩) (k * 512) (k * 512)) (newSt k).safe :: row p 64 [.slice (some ⟨b, 0, none⟩) (k * 512) (k * 512), .slice none 0 0, .bool false, .int .i64 0] :: L) w :=
    SL.flat.2 (hS.own_nil _ _)
  exact (hS.pull 1).pull 2

theorem newno_c (k : Int) (w : World) (h : k < 1 ∨ 4096 < k) :
    Calls Try.prog 22 #[.int .i64 k] w fun e w' => e = .returned (.tuple #[.pointer none, .int .i64 1]) ∧ w = w' := by
  by_cases h1 : k < 1
  · clear h
    go_enter Try.func22, Try.ntmps22
    go_wp2
    go_ret2
    exact ⟨rfl, rfl⟩
  · have h2 : 4096 < k := by omega
    clear h
    go_enter Try.func22, Try.ntmps22
    go_wp2
    go_ret2
    exact ⟨rfl, rfl⟩

/-! ### Write -/
def St.write (σ : St) (n : Nat) (d : List Int) : St := { σ with left := σ.left - 1, pend := σ.pend ++ [(n, d)] }

theorem write_wf {σ : St} (h : σ.Wf) {n : Nat} {d : List Int} (hn : n < σ.n) (hd : d.length = 512) (hp : σ.pend.length < 1000000000) (hl : -1000000000 < σ.left) : (σ.write n d).Wf :=
  ⟨h.n1, h.n2, h.len, fun x hx => by
      simp [St.write] at hx
      rcases hx with hx | rfl
      · exact h.pend x hx
      · exact ⟨hn, hd⟩, by simp [St.write]; omega, by have := h.left; simp [St.write]; omega⟩

theorem pend_snoc {g w : World} {L : List HP} {pv' d : Value} {ds : List Value} {l : List (Nat × List Int)} {x : Nat × List Int} (hds : ds.length = l.length)
    (hS : SL g (ownS 67 2 pv' (l.length + 1) (wcells l ds ++ [.int .i64 (x.1 : Int), d]) :: seps (List.zipWith (fun d x => byS d x.2) ds l) :: byS d x.2 :: L) w) :
    SL g (PendP pv' (ds ++ [d]) (l ++ [x]) :: L) w := by
  refine SL.flat1.2 ?_
  rw [wcells_app l ds x d hds, List.zipWith_append hds, List.length_append]
  have h2 := (SL.flat.1 (hS.pull 1)).perm (K := ownS 67 2 pv' (l.length + 1) (wcells l ds ++ [.int .i64 (x.1 : Int), d]) :: ((List.zipWith (fun d x => byS d x.2) ds l ++ [byS d x.2]) ++ L)) (by
    rw [List.append_assoc]; exact List.perm_middle)
  exact (SL.flat.2 (h2.perm List.perm_middle.symm)).perm (.swap _ _ _)

theorem follows : Try.prog.follows .mixedOrders = true := by kernel_rfl

set_option maxHeartbeats 1000000 in
theorem write_c {g w : World} {L : List HP} (p : Nat) (σ : St) (n : Nat) (d : Value) (data : List Int) (hn : n < σ.n) (hd : data.length = 512) (hp : σ.pend.length < 1000000000) (hl : -1000000000 < σ.left)
    (hlim : σ.limited = true → σ.left ≠ 0) (hS : SL g (StoreP p σ :: L) w) (hR : ∀ w', SL g L w' → Rd w' 1 d 512 (u8s data)) :
    Calls Try.prog 12 #[.pointer (some ⟨p, 0, none⟩), .int .i64 (n : Int), d] w fun e w' => e = .returned (.int .i64 0) ∧ SL g (StoreP p (σ.write n data) :: L) w' := by
  obtain ⟨a, c, rfl, -, -⟩ := hR w hS.tail
  have HI := Lib.hid (is_c p σ (n : Int) true (by symm; rw [decide_eq_true_eq]; omega) hS)
  have HS := Lib.hid hS
  have hw := st_wf hS
  have HW := Lib.hid hw
  have HR := Lib.hid hR
  have hlf := hw.left
  clear hS hR hw
  obtain ⟨lim, left, hlim', hleft⟩ : ∃ lim left, lim = σ.limited ∧ left = σ.left := ⟨_, _, rfl, rfl⟩
  rw [← hlim'] at hlim; rw [← hleft] at hlim hl hlf
  have Hl := Lib.hid hlim'; have Hf := Lib.hid hleft; clear hlim' hleft
  obtain ⟨sv, pv, ds, hds, hpv, hS⟩ : ∃ sv pv ds, ds.length = σ.pend.length ∧ (pv = .slice none 0 0 → σ.pend = []) ∧ SL g (row p 64 [sv, pv, .bool lim, .int .i64 left] :: byS sv σ.safe :: PendP pv ds σ.pend :: L) w := by
    obtain ⟨_, sv, pv, ds, h1, h2, h⟩ := st_open HS.out
    rw [Hl.out, Hf.out]; exact ⟨sv, pv, ds, h1, h2, h⟩
  have Hds := Lib.hid hds; have Hpv := Lib.hid hpv; clear hds hpv
  have hcl := hS.cell (b := p) (.head _) 2
  have hcf := hS.cell (b := p) (.head _) 3
  simp only [List.getElem?_cons_zero, List.getElem?_cons_succ] at hcl hcf
  have Hd := Lib.hid hd; have Hp := Lib.hid hp; have Hn := Lib.hid hn
  clear hd hp hn
  have hne : lim = true → (left == 0) = false := fun h => by have := hlim h; simpa using this
  clear hlim
  cases lim with
  | false =>
    clear hne
    go_enter Try.func12, Try.ntmps12
    go_wp2_with (first | (go_at_call 28; refine HI.out.mono ?_; rintro e w' ⟨rfl, rfl⟩) | (refine wpList_plain rfl (fun K hK => ?_); refine w_store hS 0 rfl rfl rfl El3 rfl (Nat.le_of_ble_eq_true rfl) ?_; clear hS; intro w hS; try simp only [ev, nth, Option.getD_some, Option.getD_none] at hS; refine hK _ _ ?_; clear hK K))
    clear hcl hcf
    have hc := hS.cell (b := p) (.head _) 1
    simp only [List.set, List.getElem?_cons_zero, List.getElem?_cons_succ] at hc
    refine region_plan (fun w' => w'.cell? ⟨p, 1, none⟩ = some pv) (fun i => [7, 9, 10, 13].contains i) (fun i => [13].contains i) [0, 1, 2, 3, 4, 5, 6, 7, 8, 9, 10, 11, 12, 13] follows (by kernel_rfl) (by kernel_rfl) hc ?_
    (refine plan_any rfl rfl rfl rfl rfl (Nat.le_of_ble_eq_true rfl) ?_; apply Exists.intro; apply Exists.intro; refine ⟨fun w' hS' K hK => ?_, ?_, ?_⟩; (clear hS'; go_step; exact hK); rfl)
    (refine plan_any rfl rfl rfl rfl rfl (Nat.le_of_ble_eq_true rfl) ?_; apply Exists.intro; apply Exists.intro; refine ⟨fun w' hS' K hK => ?_, ?_, ?_⟩; (clear hS'; go_step; exact hK); rfl)
    (refine plan_any rfl rfl rfl rfl rfl (Nat.le_of_ble_eq_true rfl) ?_; apply Exists.intro; apply Exists.intro; refine ⟨fun w' hS' K hK => ?_, ?_, ?_⟩; (clear hS'; go_step; exact hK); rfl)
    (refine plan_any rfl rfl rfl rfl rfl (Nat.le_of_ble_eq_true rfl) ?_; apply Exists.intro; apply Exists.intro; refine ⟨fun w' hS' K hK => ?_, ?_, ?_⟩; (clear hS'; go_step; exact hK); rfl)
    (refine plan_any rfl rfl rfl rfl rfl (Nat.le_of_ble_eq_true rfl) ?_; apply Exists.intro; apply Exists.intro; refine ⟨fun w' hS' K hK => ?_, ?_, ?_⟩; (skip; go_step; exact hK); rfl)
    (refine plan_any rfl rfl rfl rfl rfl (Nat.le_of_ble_eq_true rfl) ?_; apply Exists.intro; apply Exists.intro; refine ⟨fun w' hS' K hK => ?_, ?_, ?_⟩; (clear hS'; go_step; exact hK); rfl)
    (refine plan_any rfl rfl rfl rfl rfl (Nat.le_of_ble_eq_true rfl) ?_; apply Exists.intro; apply Exists.intro; refine ⟨fun w' hS' K hK => ?_, ?_, ?_⟩; (clear hS'; go_step; exact hK); rfl)
    refine plan_eff rfl rfl rfl (fun K hK => ?_)
    go_step
    refine (clone_c (.slice a 512 c) 512 (u8s data) hS.drew (fun w' h => HR.out w' h.tail.tail.tail) (u8s_one _) (by omega)).mono ?_
    rintro e w1 ⟨s1, rfl, hS1, -⟩
    obtain ⟨a1, c1, rfl⟩ := rd_shape hS1.own_rd
    refine hK _ _ (fun _ => hS1.cell (b := p) (.tail _ (.head _)) 1) ?_
    clear hK K hS hc
    (refine plan_any rfl rfl rfl rfl rfl (Nat.le_of_ble_eq_true rfl) ?_; apply Exists.intro; apply Exists.intro; refine ⟨fun w' hS' K hK => ?_, ?_, ?_⟩; (clear hS'; go_step; exact hK); rfl)
    refine plan_eff rfl rfl rfl (fun K hK => ?_)
    refine w_bs El67 Try.underlying62 hS1 (by decide) rfl rfl rfl ?_
    intro b w2 hS2 l' hl; simp only [List.set_cons_succ, List.set_cons_zero] at hl; subst hl
    refine hK _ _ (fun _ => hS2.cell (b := p) (.tail _ (.tail _ (.head _))) 1) ?_
    clear hK K hS1
    refine plan_eff rfl rfl rfl (fun K hK => ?_)
    have hS3 := SL.flat1.1 (hS2.pull 4)
    have hr : Rd w2 2 (.slice (some ⟨b, 0, none⟩) 1 1) 1 [.int .i64 (n : Int), .slice a1 512 c1] := hS2.rd_row (.head _) rfl (fun j u hu => by rw [Nat.zero_add]; exact hu)
    clear hS2
    refine w_append El67 Try.underlying62 hS3 0 rfl rfl rfl hr (by intro u hu; simp at hu; rcases hu with rfl | rfl <;> rfl) (by have := Hp.out; unfold maxLen; omega) (by have := Hp.out; omega) ?_
    intro pv' w4 hS4 hnil l' hl; simp only [List.set_cons_succ, List.set_cons_zero] at hl; subst hl
    clear hS3 hr
    obtain ⟨a4, c4, rfl⟩ := rd_shape hS4.own_rd
    refine hK _ _ (fun _ => hS4.cell (b := p) (.tail _ (.tail _ (.tail _ (.tail _ (.head _))))) 1) ?_
    clear hK K
    (refine plan_any rfl rfl rfl rfl rfl (Nat.le_of_ble_eq_true rfl) ?_; apply Exists.intro; apply Exists.intro; refine ⟨fun w' hS' K hK => ?_, ?_, ?_⟩; (clear hS'; go_step; exact hK); rfl)
    (refine plan_any rfl rfl rfl rfl rfl (Nat.le_of_ble_eq_true rfl) ?_; apply Exists.intro; apply Exists.intro; refine ⟨fun w' hS' K hK => ?_, ?_, ?_⟩; (clear hS'; go_step; exact hK); rfl)
    refine plan_eff rfl rfl rfl (fun K hK => ?_)
    refine w_store hS4 4 rfl rfl rfl El62 rfl (Nat.le_of_ble_eq_true rfl) ?_
    intro w5 hS5
    refine hK _ _ (fun h => by cases h) (plan_nil ?_)
    clear hK K hS4
    go_wp2
    go_ret
    refine ⟨rfl, ?_⟩
    have h6 := ((((hS5.pull 3).tail.pull 3).pull 3).pull 3)
    have h7 : SL g (ownS 67 2 (.slice a4 (σ.pend.length + 1) c4) (σ.pend.length + 1) (wcells σ.pend ds ++ [.int .i64 (((n, data) : Nat × List Int).1 : Int), .slice a1 512 c1]) ::
        seps (List.zipWith (fun d x => byS d x.2) ds σ.pend) :: byS (.slice a1 512 c1) ((n, data) : Nat × List Int).2 :: row p 64 [sv, .slice a4 (σ.pend.length + 1) c4, .bool σ.limited, .int .i64 (σ.left - 1)] :: byS sv σ.safe :: L) w5 := by
      show SL g (_ :: _ :: ownS 5 1 (.slice a1 512 c1) data.length (u8s data) :: _) _
      rw [Hd.out, ← Hl.out, ← Hf.out]; exact h6
    have h8 := pend_snoc Hds.out h7
    refine st_shut (write_wf HW.out Hn.out Hd.out Hp.out (by rw [← Hf.out]; exact hl)) ?_ (fun e => by cases e) ((h8.pull 2).pull 2)
    simp [St.write, Hds.out]
  | true =>
    have hne := hne rfl
    go_enter Try.func12, Try.ntmps12
    go_wp2_with (first | (go_at_call 28; refine HI.out.mono ?_; rintro e w' ⟨rfl, rfl⟩) | (refine wpList_plain rfl (fun K hK => ?_); refine w_store hS 0 rfl rfl rfl El3 rfl (Nat.le_of_ble_eq_true rfl) ?_; clear hS; intro w hS; try simp only [ev, nth, Option.getD_some, Option.getD_none] at hS; refine hK _ _ ?_; clear hK K))
    clear hcl hcf
    have hc := hS.cell (b := p) (.head _) 1
    simp only [List.set, List.getElem?_cons_zero, List.getElem?_cons_succ] at hc
    refine region_plan (fun w' => w'.cell? ⟨p, 1, none⟩ = some pv) (fun i => [7, 9, 10, 13].contains i) (fun i => [13].contains i) [0, 1, 2, 3, 4, 5, 6, 7, 8, 9, 10, 11, 12, 13] follows (by kernel_rfl) (by kernel_rfl) hc ?_
    (refine plan_any rfl rfl rfl rfl rfl (Nat.le_of_ble_eq_true rfl) ?_; apply Exists.intro; apply Exists.intro; refine ⟨fun w' hS' K hK => ?_, ?_, ?_⟩; (clear hS'; go_step; exact hK); rfl)
    (refine plan_any rfl rfl rfl rfl rfl (Nat.le_of_ble_eq_true rfl) ?_; apply Exists.intro; apply Exists.intro; refine ⟨fun w' hS' K hK => ?_, ?_, ?_⟩; (clear hS'; go_step; exact hK); rfl)
    (refine plan_any rfl rfl rfl rfl rfl (Nat.le_of_ble_eq_true rfl) ?_; apply Exists.intro; apply Exists.intro; refine ⟨fun w' hS' K hK => ?_, ?_, ?_⟩; (clear hS'; go_step; exact hK); rfl)
    (refine plan_any rfl rfl rfl rfl rfl (Nat.le_of_ble_eq_true rfl) ?_; apply Exists.intro; apply Exists.intro; refine ⟨fun w' hS' K hK => ?_, ?_, ?_⟩; (clear hS'; go_step; exact hK); rfl)
    (refine plan_any rfl rfl rfl rfl rfl (Nat.le_of_ble_eq_true rfl) ?_; apply Exists.intro; apply Exists.intro; refine ⟨fun w' hS' K hK => ?_, ?_, ?_⟩; (skip; go_step; exact hK); rfl)
    (refine plan_any rfl rfl rfl rfl rfl (Nat.le_of_ble_eq_true rfl) ?_; apply Exists.intro; apply Exists.intro; refine ⟨fun w' hS' K hK => ?_, ?_, ?_⟩; (clear hS'; go_step; exact hK); rfl)
    (refine plan_any rfl rfl rfl rfl rfl (Nat.le_of_ble_eq_true rfl) ?_; apply Exists.intro; apply Exists.intro; refine ⟨fun w' hS' K hK => ?_, ?_, ?_⟩; (clear hS'; go_step; exact hK); rfl)
    refine plan_eff rfl rfl rfl (fun K hK => ?_)
    go_step
    refine (clone_c (.slice a 512 c) 512 (u8s data) hS.drew (fun w' h => HR.out w' h.tail.tail.tail) (u8s_one _) (by omega)).mono ?_
    rintro e w1 ⟨s1, rfl, hS1, -⟩
    obtain ⟨a1, c1, rfl⟩ := rd_shape hS1.own_rd
    refine hK _ _ (fun _ => hS1.cell (b := p) (.tail _ (.head _)) 1) ?_
    clear hK K hS hc
    (refine plan_any rfl rfl rfl rfl rfl (Nat.le_of_ble_eq_true rfl) ?_; apply Exists.intro; apply Exists.intro; refine ⟨fun w' hS' K hK => ?_, ?_, ?_⟩; (clear hS'; go_step; exact hK); rfl)
    refine plan_eff rfl rfl rfl (fun K hK => ?_)
    refine w_bs El67 Try.underlying62 hS1 (by decide) rfl rfl rfl ?_
    intro b w2 hS2 l' hl; simp only [List.set_cons_succ, List.set_cons_zero] at hl; subst hl
    refine hK _ _ (fun _ => hS2.cell (b := p) (.tail _ (.tail _ (.head _))) 1) ?_
    clear hK K hS1
    refine plan_eff rfl rfl rfl (fun K hK => ?_)
    have hS3 := SL.flat1.1 (hS2.pull 4)
    have hr : Rd w2 2 (.slice (some ⟨b, 0, none⟩) 1 1) 1 [.int .i64 (n : Int), .slice a1 512 c1] := hS2.rd_row (.head _) rfl (fun j u hu => by rw [Nat.zero_add]; exact hu)
    clear hS2
    refine w_append El67 Try.underlying62 hS3 0 rfl rfl rfl hr (by intro u hu; simp at hu; rcases hu with rfl | rfl <;> rfl) (by have := Hp.out; unfold maxLen; omega) (by have := Hp.out; omega) ?_
    intro pv' w4 hS4 hnil l' hl; simp only [List.set_cons_succ, List.set_cons_zero] at hl; subst hl
    clear hS3 hr
    obtain ⟨a4, c4, rfl⟩ := rd_shape hS4.own_rd
    refine hK _ _ (fun _ => hS4.cell (b := p) (.tail _ (.tail _ (.tail _ (.tail _ (.head _))))) 1) ?_
    clear hK K
    (refine plan_any rfl rfl rfl rfl rfl (Nat.le_of_ble_eq_true rfl) ?_; apply Exists.intro; apply Exists.intro; refine ⟨fun w' hS' K hK => ?_, ?_, ?_⟩; (clear hS'; go_step; exact hK); rfl)
    (refine plan_any rfl rfl rfl rfl rfl (Nat.le_of_ble_eq_true rfl) ?_; apply Exists.intro; apply Exists.intro; refine ⟨fun w' hS' K hK => ?_, ?_, ?_⟩; (clear hS'; go_step; exact hK); rfl)
    refine plan_eff rfl rfl rfl (fun K hK => ?_)
    refine w_store hS4 4 rfl rfl rfl El62 rfl (Nat.le_of_ble_eq_true rfl) ?_
    intro w5 hS5
    refine hK _ _ (fun h => by cases h) (plan_nil ?_)
    clear hK K hS4
    go_wp2
    go_ret
    refine ⟨rfl, ?_⟩
    have h6 := ((((hS5.pull 3).tail.pull 3).pull 3).pull 3)
    have h7 : SL g (ownS 67 2 (.slice a4 (σ.pend.length + 1) c4) (σ.pend.length + 1) (wcells σ.pend ds ++ [.int .i64 (((n, data) : Nat × List Int).1 : Int), .slice a1 512 c1]) ::
        seps (List.zipWith (fun d x => byS d x.2) ds σ.pend) :: byS (.slice a1 512 c1) ((n, data) : Nat × List Int).2 :: row p 64 [sv, .slice a4 (σ.pend.length + 1) c4, .bool σ.limited, .int .i64 (σ.left - 1)] :: byS sv σ.safe :: L) w5 := by
      show SL g (_ :: _ :: ownS 5 1 (.slice a1 512 c1) data.length (u8s data) :: _) _
      rw [Hd.out, ← Hl.out, ← Hf.out]; exact h6
    have h8 := pend_snoc Hds.out h7
    refine st_shut (write_wf HW.out Hn.out Hd.out Hp.out (by rw [← Hf.out]; exact hl)) ?_ (fun e => by cases e) ((h8.pull 2).pull 2)
    simp [St.write, Hds.out]

end Go.Proofs.Ytinmonlhfnaiiaa
