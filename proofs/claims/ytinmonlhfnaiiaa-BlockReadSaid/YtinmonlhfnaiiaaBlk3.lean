/- The block package's functions: contracts over separation lists (part 3): Sync, Image, Crash. -/
import Derived.Test.YtinmonlhfnaiiaaBlk2
namespace Go.Proofs.Ytinmonlhfnaiiaa
open Go.Sl Go.RowKit
set_option linter.unusedVariables false
set_option linter.unusedSimpArgs false

def spl (l : List Int) (o : Nat) (d : List Int) : List Int := l.take o ++ d ++ l.drop (o + d.length)
theorem spl_len (l : List Int) (o : Nat) (d : List Int) (h : o + d.length ≤ l.length) : (spl l o d).length = l.length := by simp [spl]; omega

theorem spl_row (l : List Int) (sp : List Value) (o : Nat) (d : List Int) (h : o + d.length ≤ l.length) :
    (u8s l ++ sp).take o ++ u8s d ++ (u8s l ++ sp).drop (o + d.length) = u8s (spl l o d) ++ sp := by
  have h1 : o ≤ (u8s l).length := by rw [u8s_len]; omega
  have h2 : o + d.length ≤ (u8s l).length := by rw [u8s_len]; omega
  rw [List.take_append_of_le_length h1, List.drop_append_of_le_length h2]
  simp [spl, u8s, List.map_take, List.map_drop]

def imgN (safe : List Int) (pend : List (Nat × List Int)) (k : Nat) : List Int := (pend.take k).foldl (fun acc x => spl acc (x.1 * 512) x.2) safe
def St.image (σ : St) : List Int := σ.pend.foldl (fun acc x => spl acc (x.1 * 512) x.2) σ.safe

theorem imgN_succ (safe : List Int) (pend : List (Nat × List Int)) (k : Nat) (x : Nat × List Int) (h : pend[k]? = some x) : imgN safe pend (k + 1) = spl (imgN safe pend k) (x.1 * 512) x.2 := by
  unfold imgN
  rw [List.take_add_one, h]
  simp [List.foldl_append]

theorem imgN_len {σ : St} (hw : σ.Wf) : ∀ k, k ≤ σ.pend.length → (imgN σ.safe σ.pend k).length = σ.n * 512
  | 0, _ => by simp [imgN]; exact hw.len
  | k + 1, h => by
    have hx : σ.pend[k]? = some σ.pend[k] := List.getElem?_eq_getElem (by omega)
    rw [imgN_succ _ _ k _ hx]
    have ih := imgN_len hw k (by omega)
    obtain ⟨h1, h2⟩ := hw.pend σ.pend[k] (List.getElem_mem (by omega))
    rw [spl_len _ _ _ (by rw [ih, h2]; omega), ih]

def St.sync (σ : St) : St := { σ with safe := σ.image, pend := [] }

theorem sync_wf {σ : St} (h : σ.Wf) : σ.sync.Wf :=
  ⟨h.n1, h.n2, by
    have := imgN_len h σ.pend.length (Nat.le_refl _)
    simpa [St.sync, St.image, imgN] using this, by simp [St.sync], by simp [St.sync], h.left⟩

/-- The safe bytes' own block. -/
theorem own_row {g w : World} {L : List HP} {E sz n : Nat} {s : Value} {vs : List Value} (h : SL g (ownS E sz s n vs :: L) w) (hn : n ≠ 0) :
    ∃ b cap sp, s = .slice (some ⟨b, 0, none⟩) n cap ∧ n ≤ cap ∧ cap ≤ maxLen ∧ sp.length = (cap - n) * sz ∧ vs.length = n * sz ∧ SL g (row b E (vs ++ sp) :: L) w := by
  obtain ⟨hl, ⟨_, h0, _⟩ | ⟨b, cap, sp, h1, h2, h3, h4, h5⟩⟩ := h.own_cases
  · exact absurd h0 hn
  · exact ⟨b, cap, sp, h1, h2, h3, h4, hl, h5⟩

/-- What a round reads of the pending writes. -/
theorem pend_cells {g w : World} {L : List HP} {bp np cp : Nat} {ds : List Value} {l : List (Nat × List Int)} (h : SL g L w) (hm : PendP (.slice (some ⟨bp, 0, none⟩) np cp) ds l ∈ L) (hl : ds.length = l.length)
    (k : Nat) (x : Nat × List Int) (d : Value) (hx : l[k]? = some x) (hd : ds[k]? = some d) :
    ∀ j v, [Value.int .i64 (x.1 : Int), d][j]? = some v → w.cell? ((⟨bp, k * 2, none⟩ : Addr).add j) = some v := by
  obtain ⟨⟨a, c, e, _, hc⟩, _⟩ := pend_rd h hm hl
  have e1 : a = some ⟨bp, 0, none⟩ := by cases e; rfl
  subst e1
  obtain ⟨g1, g2⟩ := wcells_get l ds k x d hx hd
  intro j v hj
  match j with
  | 0 =>
    simp at hj; subst hj
    obtain ⟨ad, h1, h2⟩ := hc _ _ g1
    cases h1
    rw [Addr.add_lit] at h2 ⊢
    rw [show k * 2 + 0 = 0 + 2 * k from by omega]; exact h2
  | 1 =>
    simp at hj; subst hj
    obtain ⟨ad, h1, h2⟩ := hc _ _ g2
    cases h1
    rw [Addr.add_lit] at h2 ⊢
    rw [show k * 2 + 1 = 0 + (2 * k + 1) from by omega]; exact h2
  | j + 2 => simp at hj

set_option maxHeartbeats 1000000 in
theorem sync_c {g w : World} {L : List HP} (p : Nat) (σ : St) (hS : SL g (StoreP p σ :: L) w) :
    Calls Try.prog 14 #[.pointer (some ⟨p, 0, none⟩)] w fun e w' => e = .returned (.tuple #[]) ∧ SL g (StoreP p σ.sync :: L) w' := by
  obtain ⟨hw, sv, pv, ds, hds, hpv, hS⟩ := st_open hS
  have hs0 : σ.safe.length ≠ 0 := by have := hw.len; have := hw.n1; omega
  obtain ⟨bs, cs, sp, rfl, hs1, hs2, hs3, hs4, hS⟩ := own_row (hS.pull 1) hs0
  have hS := hS.pull 1
  obtain ⟨a, cp, e⟩ := rd_shape (pend_rd hS (.tail _ (.tail _ (.head _))) hds).1
  subst e
  obtain ⟨N, hN⟩ : ∃ N, N = σ.safe.length := ⟨_, rfl⟩
  obtain ⟨M, hM⟩ : ∃ M, M = σ.pend.length := ⟨_, rfl⟩
  rw [← hN] at hS hs1
  rw [← hM] at hS hpv
  have hMb : M ≤ 1000000000 := by have := hw.many; omega
  have hNb : N ≤ 2097152 := by have := hw.len; have := hw.n2; omega
  have HN := Lib.hid hN; have HM := Lib.hid hM; have Hds := Lib.hid hds; have Hpv := Lib.hid hpv; have HW := Lib.hid hw
  have Hs := Lib.hid (show sp.length = (cs - σ.safe.length) * 1 from hs3)
  have Hs2 := Lib.hid hs2
  clear hN hM hds hpv hw hs0 hs3 hs4 hs2
  have hc1 := hS.cell (b := p) (.head _) 1
  simp only [List.getElem?_cons_zero, List.getElem?_cons_succ] at hc1
  go_enter Try.func14, Try.ntmps14
  go_wp2
  clear hc1
  go_loopw [9] (fun i wr => ∃ k : Nat, k ≤ M ∧ i = .int .i64 k ∧ SL g (row p 64 [.slice (some ⟨bs, 0, none⟩) N cs, .slice a M cp, .bool σ.limited, .int .i64 σ.left] :: row bs 5 (u8s (imgN σ.safe σ.pend k) ++ sp) :: PendP (.slice a M cp) ds σ.pend :: L) wr) (fun i _ => M - (intOf i).toNat)
  case atStart => exact ⟨0, Nat.zero_le _, rfl, hS⟩
  case round =>
    clear hS
    obtain ⟨k, hk, rfl, hS⟩ := hrel
    by_cases hlt : k < M
    · obtain ⟨x, hx⟩ : ∃ x, σ.pend[k]? = some x := ⟨_, List.getElem?_eq_getElem (by have := HM.out; omega)⟩
      obtain ⟨d, hd⟩ : ∃ d, ds[k]? = some d := ⟨_, List.getElem?_eq_getElem (by have := HM.out; have := Hds.out; omega)⟩
      obtain ⟨xs, xd⟩ := x
      obtain ⟨hx1, hx2⟩ := HW.out.pend _ (List.mem_of_getElem? hx)
      have hR := (pend_rd hS (.tail _ (.tail _ (.head _))) Hds.out).2 k _ _ hx hd
      obtain ⟨ad, cd, rfl⟩ := rd_shape hR
      obtain ⟨bp, rfl⟩ : ∃ bp, a = some ⟨bp, 0, none⟩ := by
        obtain ⟨hl, ⟨_, h0, _⟩ | ⟨b, cap, sp, h1, _⟩⟩ := (SL.flat1.1 (hS.pull 2)).own_cases
        · have := HM.out; omega
        · cases h1; exact ⟨b, rfl⟩
      have HX := Lib.hid hx; have HD := Lib.hid hd
      clear hx hd hR
      simp only at hx1 hx2
      have Hx2 := Lib.hid hx2
      rw [hx2] at HD
      clear hx2
      have hxb : xs ≤ 4096 := by have := HW.out.n2; omega
      have hNn : (xs + 1) * 512 ≤ N := by have := HW.out.len; have := HN.out; omega
      have HX1 := Lib.hid hx1; clear hx1
      go_wp2_with (first | (refine wpList_plain rfl (fun K hK => ?_); refine w_loada El67 (vs := [.int .i64 (xs : Int), .slice ad 512 cd]) rfl rfl (pend_cells hS (.tail _ (.tail _ (.head _))) Hds.out k _ _ HX.out HD.out) (by kernel_rfl) rfl ?_; refine hK _ _ ?_; clear hK K) | (refine wpList_plain rfl (fun K hK => ?_); refine w_alloc El67 hS rfl ?_; clear hS; intro bw w hS l' hl; simp only [List.set_cons_succ, List.set_cons_zero] at hl; subst hl; refine hK _ _ ?_; clear hK K) | (refine wpList_plain rfl (fun K hK => ?_); refine w_storea El67 hS 0 rfl rfl rfl rfl rfl (Nat.le_of_ble_eq_true rfl) ?_; clear hS; intro w hS; try simp only [ev, nth, Option.getD_some, Option.getD_none] at hS; refine hK _ _ ?_; clear hK K))
      have hc : w.cell? ⟨p, 0, none⟩ = some (.slice (some ⟨bs, 0, none⟩) N cs) ∧ w.cell? ⟨bw, 0, none⟩ = some (.int .i64 (xs : Int)) ∧ w.cell? ⟨bw, 1, none⟩ = some (.slice ad 512 cd) :=
        ⟨hS.cell (b := p) (.tail _ (.head _)) 0, hS.cell (b := bw) (.head _) 0, hS.cell (b := bw) (.head _) 1⟩
      refine region_plan (fun w' => w'.cell? ⟨p, 0, none⟩ = some (.slice (some ⟨bs, 0, none⟩) N cs) ∧ w'.cell? ⟨bw, 0, none⟩ = some (.int .i64 (xs : Int)) ∧ w'.cell? ⟨bw, 1, none⟩ = some (.slice ad 512 cd)) (fun i => [6, 9].contains i) (fun i => [9].contains i) [0, 1, 2, 3, 4, 5, 7, 8, 6, 9] follows (by kernel_rfl) (by kernel_rfl) hc ?_
      (refine plan_any rfl rfl rfl rfl rfl (Nat.le_of_ble_eq_true rfl) ?_; apply Exists.intro; apply Exists.intro; refine ⟨fun w' hS' K hK => ?_, ?_, ?_⟩; (clear hS'; go_step; exact hK); rfl)
      (refine plan_any rfl rfl rfl rfl rfl (Nat.le_of_ble_eq_true rfl) ?_; apply Exists.intro; apply Exists.intro; refine ⟨fun w' hS' K hK => ?_, ?_, ?_⟩; (clear hS'; go_step; exact hK); rfl)
      (refine plan_any rfl rfl rfl rfl rfl (Nat.le_of_ble_eq_true rfl) ?_; apply Exists.intro; apply Exists.intro; refine ⟨fun w' hS' K hK => ?_, ?_, ?_⟩; (clear hS'; go_step; exact hK); rfl)
      (refine plan_any rfl rfl rfl rfl rfl (Nat.le_of_ble_eq_true rfl) ?_; apply Exists.intro; apply Exists.intro; refine ⟨fun w' hS' K hK => ?_, ?_, ?_⟩; (obtain ⟨f1, f2, f3⟩ := hS'; go_step; exact hK); rfl)
      (refine plan_any rfl rfl rfl rfl rfl (Nat.le_of_ble_eq_true rfl) ?_; apply Exists.intro; apply Exists.intro; refine ⟨fun w' hS' K hK => ?_, ?_, ?_⟩; (clear hS'; go_step; exact hK); rfl)
      (refine plan_any rfl rfl rfl rfl rfl (Nat.le_of_ble_eq_true rfl) ?_; apply Exists.intro; apply Exists.intro; refine ⟨fun w' hS' K hK => ?_, ?_, ?_⟩; (obtain ⟨f1, f2, f3⟩ := hS'; go_step; exact hK); rfl)
      (refine plan_any rfl rfl rfl rfl rfl (Nat.le_of_ble_eq_true rfl) ?_; apply Exists.intro; apply Exists.intro; refine ⟨fun w' hS' K hK => ?_, ?_, ?_⟩; (clear hS'; go_step; exact hK); rfl)
      (refine plan_any rfl rfl rfl rfl rfl (Nat.le_of_ble_eq_true rfl) ?_; apply Exists.intro; apply Exists.intro; refine ⟨fun w' hS' K hK => ?_, ?_, ?_⟩; (obtain ⟨f1, f2, f3⟩ := hS'; go_step; exact hK); rfl)
      refine plan_eff rfl rfl rfl (fun K hK => ?_)
      go_step
      refine (sector_c _ bs N cs xs (by omega) (by omega)).mono ?_
      rintro e w1 ⟨rfl, rfl⟩
      refine hK _ _ (fun _ => hc) ?_
      clear hK K hc
      refine plan_eff rfl rfl rfl (fun K hK => ?_)
      have hS := hS.drew
      have hR := (pend_rd hS (.tail _ (.tail _ (.tail _ (.head _)))) Hds.out).2 k _ _ HX.out HD.out
      simp only at hR
      rw [Hx2.out] at hR
      have hlen := imgN_len HW.out k (by have := HM.out; omega)
      refine w_copy El5 Try.underlying31 hS 2 rfl rfl rfl hR (u8s_one _) ?_ rfl ?_
      · show xs * 512 + 512 ≤ _
        rw [List.length_append, u8s_len, hlen]; have := HX1.out; omega
      intro w5 hS5
      refine hK _ _ (fun h => by cases h) (plan_nil ?_)
      clear hK K hS hR
      go_wp2
      go_roundw
      case rel =>
        refine ⟨k + 1, by omega, by go_num, ?_⟩
        have h2 : (Nat.min 512 512) = xd.length := by rw [Hx2.out]; rfl
        have h3 : (u8s xd).take 512 = u8s xd := List.take_of_length_le (by rw [u8s_len, Hx2.out]; omega)
        rw [h2, h3, spl_row _ _ _ _ (by rw [hlen, Hx2.out]; have := HX1.out; omega)] at hS5
        rw [imgN_succ _ _ k _ HX.out]
        have h6 := (hS5.pull 1).tail
        exact h6.pull 1
      case measure => simp [intOf]; omega
    · obtain rfl : k = M := by omega
      go_wp2_with (refine wpList_plain rfl (fun K hK => ?_); refine w_store hS 0 rfl rfl rfl El62 rfl (Nat.le_of_ble_eq_true rfl) ?_; clear hS; intro w hS; try simp only [ev, nth, Option.getD_some, Option.getD_none] at hS; refine hK _ _ ?_; clear hK K)
      go_end0
      refine ⟨rfl, ?_⟩
      have hlen := imgN_len HW.out k (by have := HM.out; omega)
      have h1 : imgN σ.safe σ.pend k = σ.sync.safe := by
        rw [HM.out]; simp [imgN, St.sync, St.image]
      rw [h1] at hS hlen
      have h2 : SL g (PendP (.slice none 0 0) [] [] :: row p 64 [.slice (some ⟨bs, 0, none⟩) N cs, .slice none 0 0, .bool σ.limited, .int .i64 σ.left] :: row bs 5 (u8s σ.sync.safe ++ sp) :: L) w :=
        SL.flat.2 (((hS.pull 2).tail).own_nil _ _)
      have hl2 : σ.sync.safe.length = σ.safe.length := by have := HW.out.len; omega
      have h3 := SL.own_some (n := σ.sync.safe.length) (cap := cs) (sz := 1) (h2.pull 2) (by rw [u8s_len]; omega) (by have := HN.out; omega) Hs2.out (by rw [hl2]; exact Hs.out)
      have h4 : SL g (byS (.slice (some ⟨bs, 0, none⟩) N cs) σ.sync.safe :: PendP (.slice none 0 0) [] [] :: row p 64 [.slice (some ⟨bs, 0, none⟩) N cs, .slice none 0 0, .bool σ.limited, .int .i64 σ.left] :: L) w := by
        have e : N = σ.sync.safe.length := by have := HN.out; omega
        rw [e]; rw [e] at h3; exact h3
      exact st_shut (sync_wf HW.out) rfl (fun _ => rfl) (h4.pull 2)

set_option maxHeartbeats 1000000 in
theorem image_c {g w : World} {L : List HP} (p : Nat) (σ : St) (hS : SL g (StoreP p σ :: L) w) :
    Calls Try.prog 20 #[.pointer (some ⟨p, 0, none⟩)] w fun e w' => ∃ b, e = .returned (.slice (some ⟨b, 0, none⟩) (σ.n * 512) (σ.n * 512)) ∧ ∃ sp, SL g (row b 5 (u8s σ.image ++ sp) :: StoreP p σ :: L) w' := by
  obtain ⟨hw, sv, pv, ds, hds, hpv, hS⟩ := st_open hS
  obtain ⟨a, cp, e⟩ := rd_shape (pend_rd hS (.tail _ (.tail _ (.head _))) hds).1
  subst e
  obtain ⟨as_, cs, e⟩ := rd_shape ((hS.pull 1).own_rd)
  subst e
  obtain ⟨N, hN⟩ : ∃ N, N = σ.n * 512 := ⟨_, rfl⟩
  obtain ⟨M, hM⟩ : ∃ M, M = σ.pend.length := ⟨_, rfl⟩
  have hN2 : N = σ.safe.length := by have := hw.len; omega
  have hMb : M ≤ 1000000000 := by have := hw.many; omega
  have hNb : N ≤ 2097152 := by have := hw.n2; omega
  have hN0 : N ≠ 0 := by have := hw.n1; omega
  have hc := hS.cell (b := p) (.head _) 0
  have hcp := hS.cell (b := p) (.head _) 1
  simp only [List.getElem?_cons_zero, List.getElem?_cons_succ] at hc hcp
  rw [← hN2] at hc
  rw [← hM] at hcp
  have HN := Lib.hid hN; have HN2 := Lib.hid hN2; have HN0 := Lib.hid hN0; have HM := Lib.hid hM; have Hds := Lib.hid hds; have Hpv := Lib.hid hpv; have HW := Lib.hid hw
  clear hN hN2 hM hds hpv hw hN0
  rw [← HN.out]
  have HS := Lib.hid hS
  clear hS
  go_enter Try.func20, Try.ntmps20
  go_wp2_with (go_at_call 29; refine (clone_c _ N (u8s σ.safe) HS.out (fun w' h => by rw [HN2.out]; exact mem_rd (E := 5) h (.tail _ (.head _))) (u8s_one _) (by omega)).mono ?_; rintro e w ⟨s1, rfl, hS, hs1⟩; (obtain ⟨bo, co, spo, rfl, ho1, ho2, ho3, ho4, hS⟩ := own_row hS HN0.out); (have hcp := hS.cell (b := p) (.tail _ (.head _)) 1); simp only [List.getElem?_cons_zero, List.getElem?_cons_succ] at hcp; rw [← HM.out] at hcp)
  clear hcp hs1
  go_loopw [16] (fun i wr => ∃ k : Nat, k ≤ M ∧ i = .int .i64 k ∧ SL g (row bo 5 (u8s (imgN σ.safe σ.pend k) ++ spo) :: row p 64 [.slice as_ σ.safe.length cs, .slice a σ.pend.length cp, .bool σ.limited, .int .i64 σ.left] :: byS (.slice as_ σ.safe.length cs) σ.safe :: PendP (.slice a σ.pend.length cp) ds σ.pend :: L) wr) (fun i _ => M - (intOf i).toNat)
  case atStart => exact ⟨0, Nat.zero_le _, rfl, hS⟩
  case round =>
    clear hS
    obtain ⟨k, hk, rfl, hS⟩ := hrel
    by_cases hlt : k < M
    · obtain ⟨x, hx⟩ : ∃ x, σ.pend[k]? = some x := ⟨_, List.getElem?_eq_getElem (by have := HM.out; omega)⟩
      obtain ⟨d, hd⟩ : ∃ d, ds[k]? = some d := ⟨_, List.getElem?_eq_getElem (by have := HM.out; have := Hds.out; omega)⟩
      obtain ⟨xs, xd⟩ := x
      obtain ⟨hx1, hx2⟩ := HW.out.pend _ (List.mem_of_getElem? hx)
      have hR := (pend_rd hS (.tail _ (.tail _ (.tail _ (.head _)))) Hds.out).2 k _ _ hx hd
      obtain ⟨ad, cd, rfl⟩ := rd_shape hR
      obtain ⟨bp, rfl⟩ : ∃ bp, a = some ⟨bp, 0, none⟩ := by
        obtain ⟨hl, ⟨_, h0, _⟩ | ⟨b, cap, sp, h1, _⟩⟩ := (SL.flat1.1 (hS.pull 3)).own_cases
        · have := HM.out; omega
        · cases h1; exact ⟨b, rfl⟩
      have HX := Lib.hid hx; have HD := Lib.hid hd
      clear hx hd hR
      simp only at hx1 hx2
      have Hx2 := Lib.hid hx2
      rw [hx2] at HD
      clear hx2
      have hxb : xs ≤ 4096 := by have := HW.out.n2; omega
      have hNn : (xs + 1) * 512 ≤ N := by have := HN.out; omega
      have HX1 := Lib.hid hx1; clear hx1
      go_wp2_with (first | (refine wpList_plain rfl (fun K hK => ?_); refine w_loada El67 (vs := [.int .i64 (xs : Int), .slice ad 512 cd]) rfl rfl (pend_cells hS (.tail _ (.tail _ (.tail _ (.head _)))) Hds.out k _ _ HX.out HD.out) (by kernel_rfl) rfl ?_; refine hK _ _ ?_; clear hK K) | (refine wpList_plain rfl (fun K hK => ?_); refine w_alloc El67 hS rfl ?_; clear hS; intro bw w hS l' hl; simp only [List.set_cons_succ, List.set_cons_zero] at hl; subst hl; refine hK _ _ ?_; clear hK K) | (refine wpList_plain rfl (fun K hK => ?_); refine w_storea El67 hS 0 rfl rfl rfl rfl rfl (Nat.le_of_ble_eq_true rfl) ?_; clear hS; intro w hS; try simp only [ev, nth, Option.getD_some, Option.getD_none] at hS; refine hK _ _ ?_; clear hK K))
      have hc : w.cell? ⟨bw, 0, none⟩ = some (.int .i64 (xs : Int)) ∧ w.cell? ⟨bw, 1, none⟩ = some (.slice ad 512 cd) :=
        ⟨hS.cell (b := bw) (.head _) 0, hS.cell (b := bw) (.head _) 1⟩
      refine region_plan (fun w' => w'.cell? ⟨bw, 0, none⟩ = some (.int .i64 (xs : Int)) ∧ w'.cell? ⟨bw, 1, none⟩ = some (.slice ad 512 cd)) (fun i => [3, 6].contains i) (fun i => [6].contains i) [0, 1, 2, 4, 5, 3, 6] follows (by kernel_rfl) (by kernel_rfl) hc ?_
      (refine plan_any rfl rfl rfl rfl rfl (Nat.le_of_ble_eq_true rfl) ?_; apply Exists.intro; apply Exists.intro; refine ⟨fun w' hS' K hK => ?_, ?_, ?_⟩; (clear hS'; go_step; exact hK); rfl)
      (refine plan_any rfl rfl rfl rfl rfl (Nat.le_of_ble_eq_true rfl) ?_; apply Exists.intro; apply Exists.intro; refine ⟨fun w' hS' K hK => ?_, ?_, ?_⟩; (clear hS'; go_step; exact hK); rfl)
      (refine plan_any rfl rfl rfl rfl rfl (Nat.le_of_ble_eq_true rfl) ?_; apply Exists.intro; apply Exists.intro; refine ⟨fun w' hS' K hK => ?_, ?_, ?_⟩; (obtain ⟨f1, f2⟩ := hS'; go_step; exact hK); rfl)
      (refine plan_any rfl rfl rfl rfl rfl (Nat.le_of_ble_eq_true rfl) ?_; apply Exists.intro; apply Exists.intro; refine ⟨fun w' hS' K hK => ?_, ?_, ?_⟩; (clear hS'; go_step; exact hK); rfl)
      (refine plan_any rfl rfl rfl rfl rfl (Nat.le_of_ble_eq_true rfl) ?_; apply Exists.intro; apply Exists.intro; refine ⟨fun w' hS' K hK => ?_, ?_, ?_⟩; (obtain ⟨f1, f2⟩ := hS'; go_step; exact hK); rfl)
      refine plan_eff rfl rfl rfl (fun K hK => ?_)
      go_step
      refine (sector_c _ bo N co xs (by omega) (by omega)).mono ?_
      rintro e w1 ⟨rfl, rfl⟩
      refine hK _ _ (fun _ => hc) ?_
      clear hK K hc
      refine plan_eff rfl rfl rfl (fun K hK => ?_)
      have hS := hS.drew
      have hR := (pend_rd hS (.tail _ (.tail _ (.tail _ (.tail _ (.head _))))) Hds.out).2 k _ _ HX.out HD.out
      simp only at hR
      rw [Hx2.out] at hR
      have hlen := imgN_len HW.out k (by have := HM.out; omega)
      refine w_copy El5 Try.underlying31 hS 1 rfl rfl rfl hR (u8s_one _) ?_ rfl ?_
      · show xs * 512 + 512 ≤ _
        rw [List.length_append, u8s_len, hlen]; have := HX1.out; omega
      intro w5 hS5
      refine hK _ _ (fun h => by cases h) (plan_nil ?_)
      clear hK K hS hR
      go_wp2
      go_roundw
      case rel =>
        refine ⟨k + 1, by omega, by go_num, ?_⟩
        have h2 : (Nat.min 512 512) = xd.length := by rw [Hx2.out]; rfl
        have h3 : (u8s xd).take 512 = u8s xd := List.take_of_length_le (by rw [u8s_len, Hx2.out]; omega)
        rw [h2, h3, spl_row _ _ _ _ (by rw [hlen, Hx2.out]; have := HX1.out; omega)] at hS5
        rw [imgN_succ _ _ k _ HX.out]
        exact (hS5.pull 1).tail
      case measure => simp [intOf]; omega
    · have hkM : k = M := by omega
      have HK := Lib.hid hkM; clear hkM
      go_wp2_with (go_at_call 31; refine (clip_c _ _ N co ho1 (by omega)).mono ?_; rintro e w' ⟨rfl, rfl⟩)
      go_ret
      have h1 : imgN σ.safe σ.pend k = σ.image := by
        rw [HK.out, HM.out]; simp [imgN, St.image]
      rw [h1] at hS
      exact ⟨bo, rfl, spo, (st_shut HW.out Hds.out Hpv.out hS.tail |> fun h => ((hS.pull 0) |> fun _ => by
        have h2 := ((hS.pull 3).pull 3).pull 3
        exact (st_shut HW.out Hds.out Hpv.out h2 |> fun h3 => h3.pull 1)))⟩

end Go.Proofs.Ytinmonlhfnaiiaa
