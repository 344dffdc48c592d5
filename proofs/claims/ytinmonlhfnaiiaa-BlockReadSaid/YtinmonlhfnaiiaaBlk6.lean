/- The laws' own helper 'made' (contract). -/
import Derived.Test.YtinmonlhfnaiiaaBlk5
namespace Go.Proofs.Ytinmonlhfnaiiaa
open Go.Sl Go.RowKit
set_option linter.unusedVariables false
set_option linter.unusedSimpArgs false

def wrSt (σ : St) (x : Int) : St := σ.write (pkN x σ.n) (filledL x 512)
def wrs (σ : St) (l : List Int) : St := l.foldl wrSt σ

theorem wrs_facts (l : List Int) : ∀ σ : St, (wrs σ l).n = σ.n ∧ (wrs σ l).safe = σ.safe ∧ (wrs σ l).limited = σ.limited ∧ (wrs σ l).left = σ.left - l.length ∧ (wrs σ l).pend = σ.pend ++ l.map (fun x => (pkN x σ.n, filledL x 512)) := by
  induction l with
  | nil => intro σ; simp [wrs]
  | cons x l ih =>
    intro σ
    have h := ih (wrSt σ x)
    have e : wrs σ (x :: l) = wrs (wrSt σ x) l := rfl
    rw [e]
    obtain ⟨h1, h2, h3, h4, h5⟩ := h
    refine ⟨h1, h2, h3, ?_, ?_⟩
    · rw [h4]; simp [wrSt, St.write]; omega
    · rw [h5]; simp [wrSt, St.write]

theorem wrs_take (σ : St) (l : List Int) (k : Nat) (x : Int) (h : l[k]? = some x) : wrs σ (l.take (k + 1)) = wrSt (wrs σ (l.take k)) x := by
  unfold wrs
  rw [List.take_add_one, h]
  simp [List.foldl_append]

def madeSt (n : Nat) (sl pl : List Int) : St := wrs (wrs (newSt n) sl).sync pl

set_option maxHeartbeats 4000000 in
theorem made_c {g w : World} {L : List HP} (n : Nat) (hn1 : 1 ≤ n) (hn2 : n ≤ 4096) (sa pa : Option Addr) (sc pc : Nat) (sl pl : List Int) (A B : Nat) (hA : A = sl.length) (hB : B = pl.length) (hA2 : A ≤ 1000) (hB2 : B ≤ 1000)
    (hxa : ∀ x ∈ sl, -9223372036854775808 ≤ x ∧ x ≤ 9223372036854775807) (hxb : ∀ x ∈ pl, -9223372036854775808 ≤ x ∧ x ≤ 9223372036854775807)
    (hS : SL g L w) (hRa : ∀ w', SL g L w' → Rd w' 1 (.slice sa A sc) A (i64s sl)) (hRb : ∀ w', SL g L w' → Rd w' 1 (.slice pa B pc) B (i64s pl)) :
    Calls Try.prog 11 #[.int .i64 (n : Int), .slice sa A sc, .slice pa B pc] w fun e w' => ∃ p, e = .returned (.tuple #[.pointer (some ⟨p, 0, none⟩), .bool true]) ∧ SL g (StoreP p (madeSt n sl pl) :: L) w' := by
  have HA := Lib.hid hA; have HB := Lib.hid hB; have HXA := Lib.hid hxa; have HXB := Lib.hid hxb; have HRA := Lib.hid hRa; have HRB := Lib.hid hRb; have HS := Lib.hid hS
  clear hA hB hxa hxb hRa hRb hS
  go_enter Try.func11, Try.ntmps11
  go_wp2_with (first | (go_at_call 22; refine (new_c n hn1 hn2 HS.out).mono ?_; rintro e w ⟨p, rfl, hS⟩) | (go_at_call 27; refine (show Calls _ _ _ _ (fun e w' => e = .returned (.int .i64 (n : Int)) ∧ w = w') from sectors_c p (newSt n) hS).mono ?_; rintro e w' ⟨rfl, rfl⟩))
  go_loopw [10] (fun i wr => ∃ k : Nat, k ≤ A ∧ i = .int .i64 k ∧ SL g (StoreP p (wrs (newSt n) (sl.take k)) :: L) wr) (fun i _ => A - (intOf i).toNat)
  case atStart => exact ⟨0, Nat.zero_le _, rfl, hS⟩
  case round =>
    clear hS
    obtain ⟨k, hk, rfl, hS⟩ := hrel
    by_cases hlt : k < A
    · obtain ⟨x, hx⟩ : ∃ x, sl[k]? = some x := ⟨_, List.getElem?_eq_getElem (by have := HA.out; omega)⟩
      obtain ⟨hx0, hx1⟩ := HXA.out x (List.mem_of_getElem? hx)
      obtain ⟨ad, e⟩ := rd_base (HRA.out _ hS.tail) (by omega)
      have HC := Lib.hid (show ∀ w', SL g L w' → w'.cell? (ad.add k) = some (.int .i64 x) from fun w' h => by
        have h2 := HRA.out w' h
        rw [e] at h2
        have h3 := rd_celli h2 k (by have := HA.out; omega)
        rw [h3]
        have h4 := hx
        rw [List.getElem?_eq_getElem (by have := HA.out; omega)] at h4
        rw [Option.some.inj h4])
      subst e
      obtain ⟨h1, h2, h3, h4, h5⟩ := wrs_facts (sl.take k) (newSt n)
      have Hn := Lib.hid h1; have Hl := Lib.hid h4; have Hlim := Lib.hid h3; have Hp := Lib.hid h5
      have HX := Lib.hid hx
      have hlen := Lib.hid (show (sl.take k).length ≤ 1000 by rw [List.length_take]; omega)
      clear h1 h2 h3 h4 h5 hx
      have Hpk := Lib.hid (pkN_lt x n hn1)
      go_wp2
      have hc : wr.cell? (ad.add k) = some (.int .i64 x) := HC.out _ hS.tail
      refine region_plan (fun w' => w'.cell? (ad.add k) = some (.int .i64 x)) (fun i => [6, 11, 12].contains i) (fun i => ([] : List Nat).contains i) [0, 1, 2, 3, 4, 5, 7, 8, 9, 10, 6, 11, 12, 13] follows (by kernel_rfl) (by kernel_rfl) hc ?_
      (refine plan_any rfl rfl rfl rfl rfl (Nat.le_of_ble_eq_true rfl) ?_; apply Exists.intro; apply Exists.intro; refine ⟨fun w' hS' K hK => ?_, ?_, ?_⟩; (clear hS'; go_step; exact hK); rfl)
      (refine plan_any rfl rfl rfl rfl rfl (Nat.le_of_ble_eq_true rfl) ?_; apply Exists.intro; apply Exists.intro; refine ⟨fun w' hS' K hK => ?_, ?_, ?_⟩; (clear hS'; go_step; exact hK); rfl)
      (refine plan_any rfl rfl rfl rfl rfl (Nat.le_of_ble_eq_true rfl) ?_; apply Exists.intro; apply Exists.intro; refine ⟨fun w' hS' K hK => ?_, ?_, ?_⟩; (clear hS'; go_step; exact hK); rfl)
      (refine plan_any rfl rfl rfl rfl rfl (Nat.le_of_ble_eq_true rfl) ?_; apply Exists.intro; apply Exists.intro; refine ⟨fun w' hS' K hK => ?_, ?_, ?_⟩; (clear hS'; go_step; exact hK); rfl)
      (refine plan_any rfl rfl rfl rfl rfl (Nat.le_of_ble_eq_true rfl) ?_; apply Exists.intro; apply Exists.intro; refine ⟨fun w' hS' K hK => ?_, ?_, ?_⟩; (skip; go_step; exact hK); rfl)
      (refine plan_any rfl rfl rfl rfl rfl (Nat.le_of_ble_eq_true rfl) ?_; apply Exists.intro; apply Exists.intro; refine ⟨fun w' hS' K hK => ?_, ?_, ?_⟩; (clear hS'; go_step; exact hK); rfl)
      (refine plan_any rfl rfl rfl rfl rfl (Nat.le_of_ble_eq_true rfl) ?_; apply Exists.intro; apply Exists.intro; refine ⟨fun w' hS' K hK => ?_, ?_, ?_⟩; (clear hS'; go_step; exact hK); rfl)
      (refine plan_any rfl rfl rfl rfl rfl (Nat.le_of_ble_eq_true rfl) ?_; apply Exists.intro; apply Exists.intro; refine ⟨fun w' hS' K hK => ?_, ?_, ?_⟩; (clear hS'; go_step; exact hK); rfl)
      (refine plan_any rfl rfl rfl rfl rfl (Nat.le_of_ble_eq_true rfl) ?_; apply Exists.intro; apply Exists.intro; refine ⟨fun w' hS' K hK => ?_, ?_, ?_⟩; (clear hS'; go_step; exact hK); rfl)
      (refine plan_any rfl rfl rfl rfl rfl (Nat.le_of_ble_eq_true rfl) ?_; apply Exists.intro; apply Exists.intro; refine ⟨fun w' hS' K hK => ?_, ?_, ?_⟩; (skip; go_step; exact hK); rfl)
      refine plan_eff rfl rfl rfl (fun K hK => ?_)
      go_step
      refine (pick_c x n _ hx0 hx1 hn1 (by omega)).mono ?_
      rintro e w1 ⟨rfl, rfl⟩
      refine hK _ _ (fun _ => hc) ?_
      clear hK K hc
      refine plan_eff rfl rfl rfl (fun K hK => ?_)
      go_step
      refine (filled_c x 0 512 (by omega) (by omega) hS.drew).mono ?_
      rintro e w1 ⟨b, rfl, hS1⟩
      refine hK _ _ (fun _ => HC.out _ hS1.tail.tail) ?_
      clear hK K hS
      refine plan_eff rfl rfl rfl (fun K hK => ?_)
      go_step
      refine (write_c p (wrs (newSt n) (sl.take k)) (pkN x n) _ (filledL x 512) (by rw [Hn.out]; exact Hpk.out) (filledL_len _ _) ?_ ?_ ?_ (hS1.pull 1) (fun w' h => h.rd_row (.head _) (by rw [u8s_len, filledL_len]) (fun j u hu => by rw [Nat.zero_add]; exact hu))).mono ?_
      · rw [Hp.out]; have := hlen.out; simp only [List.length_append, List.length_map]; simp [newSt]; omega
      · rw [Hl.out]; have := hlen.out; simp [newSt]; omega
      · intro h; rw [Hlim.out] at h; cases h
      rintro e w2 ⟨rfl, hS2⟩
      refine hK _ _ (fun _ => HC.out _ hS2.tail.tail) ?_
      clear hK K hS1
      (refine plan_any rfl rfl rfl rfl rfl (Nat.le_of_ble_eq_true rfl) ?_; apply Exists.intro; apply Exists.intro; refine ⟨fun w' hS' K hK => ?_, ?_, ?_⟩; (clear hS'; go_step; exact hK); rfl)
      refine plan_nil ?_
      go_wp2
      go_roundw
      case rel =>
        refine ⟨k + 1, by omega, by go_num, ?_⟩
        rw [wrs_take _ _ k x HX.out]
        unfold wrSt
        rw [Hn.out]
        exact (hS2.pull 1).tail
      case measure => simp [intOf]; omega
    · have hkA : k = A := by omega
      have HK := Lib.hid hkA; clear hkA
      have hS : SL g (StoreP p (wrs (newSt n) sl) :: L) wr := by
        have e : sl.take k = sl := List.take_of_length_le (by have := HK.out; have := HA.out; omega)
        rw [e] at hS; exact hS
      obtain ⟨h1, h2, h3, h4, h5⟩ := wrs_facts sl (newSt n)
      have Hn := Lib.hid (show (wrs (newSt n) sl).sync.n = n from h1)
      have Hlf := Lib.hid (show (wrs (newSt n) sl).sync.left = (newSt n).left - sl.length from h4)
      have Hlm := Lib.hid (show (wrs (newSt n) sl).sync.limited = (newSt n).limited from h3)
      clear h1 h2 h3 h4 h5
      go_wp2_with (first | (go_at_call 14; refine (sync_c p _ hS).mono ?_; clear hS; rintro e w ⟨rfl, hS⟩) | (go_at_call 21; refine (show Calls _ _ _ _ (fun e w' => e = .returned (.int .i64 ((0 : Nat) : Int)) ∧ w = w') from pending_c p _ hS).mono ?_; rintro e w' ⟨rfl, rfl⟩))
      go_loopw [11] (fun i wr => ∃ k : Nat, k ≤ B ∧ i = .int .i64 k ∧ SL g (StoreP p (wrs (wrs (newSt n) sl).sync (pl.take k)) :: L) wr) (fun i _ => B - (intOf i).toNat)
      case atStart => exact ⟨0, Nat.zero_le _, rfl, hS⟩
      case round =>
        clear hS
        obtain ⟨k, hk, rfl, hS⟩ := hrel
        by_cases hlt : k < B
        · obtain ⟨x, hx⟩ : ∃ x, pl[k]? = some x := ⟨_, List.getElem?_eq_getElem (by have := HB.out; omega)⟩
          obtain ⟨hx0, hx1⟩ := HXB.out x (List.mem_of_getElem? hx)
          obtain ⟨ad, e⟩ := rd_base (HRB.out _ hS.tail) (by omega)
          have HC := Lib.hid (show ∀ w', SL g L w' → w'.cell? (ad.add k) = some (.int .i64 x) from fun w' h => by
            have h2 := HRB.out w' h
            rw [e] at h2
            have h3 := rd_celli h2 k (by have := HB.out; omega)
            rw [h3]
            have h4 := hx
            rw [List.getElem?_eq_getElem (by have := HB.out; omega)] at h4
            rw [Option.some.inj h4])
          subst e
          obtain ⟨h1, h2, h3, h4, h5⟩ := wrs_facts (pl.take k) (wrs (newSt n) sl).sync
          have Hn2 := Lib.hid h1; have Hl := Lib.hid h4; have Hlim := Lib.hid h3; have Hp := Lib.hid h5
          have HX := Lib.hid hx
          have hlen := Lib.hid (show (pl.take k).length ≤ 1000 by rw [List.length_take]; omega)
          clear h1 h2 h3 h4 h5 hx
          have Hpk := Lib.hid (pkN_lt x n hn1)
          go_wp2
          have hc : wr.cell? (ad.add k) = some (.int .i64 x) := HC.out _ hS.tail
          refine region_plan (fun w' => w'.cell? (ad.add k) = some (.int .i64 x)) (fun i => [6, 11, 12].contains i) (fun i => ([] : List Nat).contains i) [0, 1, 2, 3, 4, 5, 7, 8, 9, 10, 6, 11, 12, 13] follows (by kernel_rfl) (by kernel_rfl) hc ?_
          (refine plan_any rfl rfl rfl rfl rfl (Nat.le_of_ble_eq_true rfl) ?_; apply Exists.intro; apply Exists.intro; refine ⟨fun w' hS' K hK => ?_, ?_, ?_⟩; (clear hS'; go_step; exact hK); rfl)
          (refine plan_any rfl rfl rfl rfl rfl (Nat.le_of_ble_eq_true rfl) ?_; apply Exists.intro; apply Exists.intro; refine ⟨fun w' hS' K hK => ?_, ?_, ?_⟩; (clear hS'; go_step; exact hK); rfl)
          (refine plan_any rfl rfl rfl rfl rfl (Nat.le_of_ble_eq_true rfl) ?_; apply Exists.intro; apply Exists.intro; refine ⟨fun w' hS' K hK => ?_, ?_, ?_⟩; (clear hS'; go_step; exact hK); rfl)
          (refine plan_any rfl rfl rfl rfl rfl (Nat.le_of_ble_eq_true rfl) ?_; apply Exists.intro; apply Exists.intro; refine ⟨fun w' hS' K hK => ?_, ?_, ?_⟩; (clear hS'; go_step; exact hK); rfl)
          (refine plan_any rfl rfl rfl rfl rfl (Nat.le_of_ble_eq_true rfl) ?_; apply Exists.intro; apply Exists.intro; refine ⟨fun w' hS' K hK => ?_, ?_, ?_⟩; (skip; go_step; exact hK); rfl)
          (refine plan_any rfl rfl rfl rfl rfl (Nat.le_of_ble_eq_true rfl) ?_; apply Exists.intro; apply Exists.intro; refine ⟨fun w' hS' K hK => ?_, ?_, ?_⟩; (clear hS'; go_step; exact hK); rfl)
          (refine plan_any rfl rfl rfl rfl rfl (Nat.le_of_ble_eq_true rfl) ?_; apply Exists.intro; apply Exists.intro; refine ⟨fun w' hS' K hK => ?_, ?_, ?_⟩; (clear hS'; go_step; exact hK); rfl)
          (refine plan_any rfl rfl rfl rfl rfl (Nat.le_of_ble_eq_true rfl) ?_; apply Exists.intro; apply Exists.intro; refine ⟨fun w' hS' K hK => ?_, ?_, ?_⟩; (clear hS'; go_step; exact hK); rfl)
          (refine plan_any rfl rfl rfl rfl rfl (Nat.le_of_ble_eq_true rfl) ?_; apply Exists.intro; apply Exists.intro; refine ⟨fun w' hS' K hK => ?_, ?_, ?_⟩; (clear hS'; go_step; exact hK); rfl)
          (refine plan_any rfl rfl rfl rfl rfl (Nat.le_of_ble_eq_true rfl) ?_; apply Exists.intro; apply Exists.intro; refine ⟨fun w' hS' K hK => ?_, ?_, ?_⟩; (skip; go_step; exact hK); rfl)
          refine plan_eff rfl rfl rfl (fun K hK => ?_)
          go_step
          refine (pick_c x n _ hx0 hx1 hn1 (by omega)).mono ?_
          rintro e w1 ⟨rfl, rfl⟩
          refine hK _ _ (fun _ => hc) ?_
          clear hK K hc
          refine plan_eff rfl rfl rfl (fun K hK => ?_)
          go_step
          refine (filled_c x 0 512 (by omega) (by omega) hS.drew).mono ?_
          rintro e w1 ⟨b, rfl, hS1⟩
          refine hK _ _ (fun _ => HC.out _ hS1.tail.tail) ?_
          clear hK K hS
          refine plan_eff rfl rfl rfl (fun K hK => ?_)
          go_step
          refine (write_c p (wrs (wrs (newSt n) sl).sync (pl.take k)) (pkN x n) _ (filledL x 512) (by rw [Hn2.out, Hn.out]; exact Hpk.out) (filledL_len _ _) ?_ ?_ ?_ (hS1.pull 1) (fun w' h => h.rd_row (.head _) (by rw [u8s_len, filledL_len]) (fun j u hu => by rw [Nat.zero_add]; exact hu))).mono ?_
          · rw [Hp.out]; have := hlen.out; simp only [List.length_append, List.length_map]; simp [St.sync]; omega
          · rw [Hl.out]; have := hlen.out; rw [Hlf.out]; have := HA.out; simp [newSt]; omega
          · intro h; rw [Hlim.out, Hlm.out] at h; cases h
          rintro e w2 ⟨rfl, hS2⟩
          refine hK _ _ (fun _ => HC.out _ hS2.tail.tail) ?_
          clear hK K hS1
          (refine plan_any rfl rfl rfl rfl rfl (Nat.le_of_ble_eq_true rfl) ?_; apply Exists.intro; apply Exists.intro; refine ⟨fun w' hS' K hK => ?_, ?_, ?_⟩; (clear hS'; go_step; exact hK); rfl)
          refine plan_nil ?_
          go_wp2
          go_roundw
          case rel =>
            refine ⟨k + 1, by omega, by go_num, ?_⟩
            rw [wrs_take _ _ k x HX.out]
            unfold wrSt
            rw [Hn2.out, Hn.out]
            exact (hS2.pull 1).tail
          case measure => simp [intOf]; omega
        · have hkA : k = B := by omega
          have HK := Lib.hid hkA; clear hkA
          have hS : SL g (StoreP p (madeSt n sl pl) :: L) wr := by
            have e : pl.take k = pl := List.take_of_length_le (by have := HK.out; have := HB.out; omega)
            rw [e] at hS; exact hS
          have hpl : (madeSt n sl pl).pend.length = B := by
            have h := (wrs_facts pl (wrs (newSt n) sl).sync).2.2.2.2
            unfold madeSt
            rw [h, HB.out]; simp [St.sync]
          have HPL := Lib.hid hpl; clear hpl
          go_wp2_with (go_at_call 21; refine (show Calls _ _ _ _ (fun e w' => e = .returned (.int .i64 (B : Int)) ∧ wr = w') from by rw [← HPL.out]; exact pending_c p _ hS).mono ?_; rintro e w' ⟨rfl, rfl⟩)
          go_ret2
          exact ⟨p, rfl, hS⟩

end Go.Proofs.Ytinmonlhfnaiiaa
