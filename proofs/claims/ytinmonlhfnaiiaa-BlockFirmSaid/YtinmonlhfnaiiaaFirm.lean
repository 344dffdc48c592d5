/- Proved: whatever both arguments are, the law arcadelaw10.BlockFirm returns true: what is refused has its error and changes nothing; a limit lets just so many writes be. No condition. -/
import Derived.Test.YtinmonlhfnaiiaaFirmF
import Derived.Test.YtinmonlhfnaiiaaBlk8
namespace Go.Proofs.Ytinmonlhfnaiiaa
open Go.Sl Go.RowKit
set_option linter.unusedVariables false
set_option linter.unusedSimpArgs false

/-- A refused write of a filled list. -/
theorem wnof {g w : World} {L : List HP} (p b : Nat) (σ : St) (n : Int) (l : List Value) (len : Nat) (h : n < 0 ∨ (σ.n : Int) ≤ n ∨ len ≠ 512) (hlen : len ≤ 100000) (hS : SL g (row b 5 l :: StoreP p σ :: L) w) :
    Calls Try.prog 12 #[.pointer (some ⟨p, 0, none⟩), .int .i64 n, .slice (some ⟨b, 0, none⟩) len len] w fun e w' => e = .returned (.int .i64 1) ∧ SL g (StoreP p σ :: L) w' :=
  (wno_c p σ n _ len len h (by omega) (hS.pull 1)).mono (fun e w' h => ⟨h.1, h.2 ▸ hS.tail⟩)

theorem wfullf {g w : World} {L : List HP} (p b : Nat) (σ : St) (n : Int) (l : List Value) (hn : 0 ≤ n ∧ n < (σ.n : Int)) (h1 : σ.limited = true) (h2 : σ.left = 0) (hS : SL g (row b 5 l :: StoreP p σ :: L) w) :
    Calls Try.prog 12 #[.pointer (some ⟨p, 0, none⟩), .int .i64 n, .slice (some ⟨b, 0, none⟩) 512 512] w fun e w' => e = .returned (.int .i64 101) ∧ SL g (StoreP p σ :: L) w' :=
  (wfull_c p σ n _ 512 hn h1 h2 (hS.pull 1)).mono (fun e w' h => ⟨h.1, h.2 ▸ hS.tail⟩)

theorem wfill {g w : World} {L : List HP} (p b : Nat) (σ : St) (k : Nat) (x : Int) (hn : k < σ.n) (hp : σ.pend.length < 1000000000) (hl : -1000000000 < σ.left)
    (hlim : σ.limited = true → σ.left ≠ 0) (hS : SL g (row b 5 (u8s (filledL x 512)) :: StoreP p σ :: L) w) :
    Calls Try.prog 12 #[.pointer (some ⟨p, 0, none⟩), .int .i64 (k : Int), .slice (some ⟨b, 0, none⟩) 512 512] w fun e w' => e = .returned (.int .i64 0) ∧ SL g (StoreP p (σ.write k (filledL x 512)) :: L) w' := by
  refine (write_c p σ k _ (filledL x 512) hn (filledL_len _ _) hp hl hlim (hS.pull 1) (fun w' h => h.rd_row (.head _) (by rw [u8s_len, filledL_len]) (fun j u hu => by rw [Nat.zero_add]; exact hu))).mono ?_
  rintro e w2 ⟨rfl, hS2⟩
  exact ⟨rfl, (hS2.pull 1).tail⟩

/-- What the law needs to know of the store. -/
structure Is (σ : St) (lim : Bool) (left : Int) (m : Nat) : Prop where
  n : σ.n = 3
  lim : σ.limited = lim
  left : σ.left = left
  m : σ.pend.length = m

theorem Is.made : Is (madeSt 3 [] []) false 0 0 := ⟨rfl, rfl, rfl, rfl⟩
theorem Is.limit {σ : St} {l : Bool} {a : Int} {m : Nat} (h : Is σ l a m) (n : Int) (k : Int) (hk : max n 0 = k) : Is (σ.limit n) true k m := ⟨h.n, rfl, hk, h.m⟩
theorem Is.write {σ : St} {l : Bool} {a : Int} {m : Nat} (h : Is σ l a m) (k : Nat) (d : List Int) (b : Int) (hb : a - 1 = b) : Is (σ.write k d) l b (m + 1) :=
  ⟨h.n, h.lim, by show σ.left - 1 = b; rw [h.left]; exact hb, by show (σ.pend ++ [(k, d)]).length = _; rw [List.length_append, h.m]; rfl⟩
theorem Is.sync {σ : St} {l : Bool} {a : Int} {m : Nat} (h : Is σ l a m) : Is σ.sync l a 0 := ⟨h.n, h.lim, h.left, rfl⟩

set_option maxRecDepth 100000 in
set_option maxHeartbeats 8000000 in
theorem firm_walk : WalkSaid_BlockFirm := by
  intro far limit W w0 w1
  obtain ⟨o1, o2⟩ := wf64 w0
  obtain ⟨m1, m2⟩ := wf64 w1
  clear w0 w1
  have HS := Lib.hid (SL.start W)
  obtain ⟨F, hF, hcF⟩ : ∃ F : Nat, F < 1099511627776 ∧ Calls Try.prog 15 #[.int .i64 far, .int .i64 1099511627776] W (fun e w' => e = .returned (.int .i64 (F : Int)) ∧ W = w') :=
    ⟨pkN far 1099511627776, pkN_lt _ _ (by omega), pick_c far 1099511627776 W o1 o2 (by omega) (by omega)⟩
  have HC := Lib.hid hcF
  clear hcF o1 o2
  obtain ⟨n, hn⟩ : ∃ n, n = pkN limit 5 := ⟨_, rfl⟩
  have hn5 : n < 5 := by have := pkN_lt limit 5 (by omega); omega
  have HN := Lib.hid hn; clear hn
  go_enter Try.func7, Try.ntmps7
  go_wp2_with fail
  refine HC.out.mono ?_
  clear HC
  rintro e w' ⟨rfl, rfl⟩
  go_wp2_with fail
  refine (made_c 3 (by omega) (by omega) none none 0 0 [] [] 0 0 rfl rfl (by omega) (by omega) (by simp) (by simp) HS.out (fun _ _ => Rd.nil _ _ _) (fun _ _ => Rd.nil _ _ _)).mono ?_
  rintro e w1 ⟨p, rfl, hS⟩
  obtain ⟨σ, hI, hS⟩ : ∃ σ, Is σ false 0 0 ∧ SL W (StoreP p σ :: [old W]) w1 := ⟨_, Is.made, hS⟩
  have HI := Lib.hid hI; clear hI
  go_wp2_with fail
  refine (newno_c _ _ (by omega)).mono ?_
  rintro e w' ⟨rfl, rfl⟩
  go_wp2_with fail
  refine (newno_c _ _ (by omega)).mono ?_
  rintro e w' ⟨rfl, rfl⟩
  go_wp2_with fail
  refine (ofno_c none 0 0 _ (.inl rfl) (by omega)).mono ?_
  rintro e w' ⟨rfl, rfl⟩
  go_wp2_with fail
  refine (pick_c F 4 _ (by omega) (by omega) (by omega) (by omega)).mono ?_
  rintro e w' ⟨rfl, rfl⟩
  obtain ⟨a4, ha4, ha4b⟩ : ∃ a, pkN F 4 = a ∧ a < 4 := ⟨_, rfl, pkN_lt _ _ (by omega)⟩
  rw [ha4]
  clear ha4
  go_wp2_with fail
  refine (pick_c F 511 _ (by omega) (by omega) (by omega) (by omega)).mono ?_
  rintro e w' ⟨rfl, rfl⟩
  obtain ⟨a5, ha5, ha5b⟩ : ∃ a, pkN F 511 = a ∧ a < 511 := ⟨_, rfl, pkN_lt _ _ (by omega)⟩
  rw [ha5]
  clear ha5
  go_wp2_with (((with_reducible show wpList _ _ _ (Oper.mk _ (Op.makeSlice _ _ _) _ _ _ _ :: _) _ _); refine wpList_plain rfl (fun K hK => ?_); refine w_make El5 Try.underlying31 hS rfl rfl (by omega) (by omega) (by omega) (by unfold maxLen; omega) ?_; clear hS; intro b w hS l' hl; simp only [List.set_cons_succ, List.set_cons_zero] at hl; subst hl; refine hK _ _ ?_; clear hK K); have hS := hS.tail)
  refine (ofno_c _ _ _ _ (.inr (.inl (by omega))) (by omega)).mono ?_
  rintro e w' ⟨rfl, rfl⟩
  go_wp2_with (((with_reducible show wpList _ _ _ (Oper.mk _ (Op.makeSlice _ _ _) _ _ _ _ :: _) _ _); refine wpList_plain rfl (fun K hK => ?_); refine w_make El5 Try.underlying31 hS rfl rfl (by omega) (by omega) (by omega) (by unfold maxLen; omega) ?_; clear hS; intro b w hS l' hl; simp only [List.set_cons_succ, List.set_cons_zero] at hl; subst hl; refine hK _ _ ?_; clear hK K); have hS := hS.tail)
  refine (ofno_c _ _ _ _ (.inr (.inr (by omega))) (by omega)).mono ?_
  rintro e w' ⟨rfl, rfl⟩
  go_wp2_with fail
  have HR := Lib.hid (show ∀ (x : Int), x < 0 ∨ 3 ≤ x → x < 0 ∨ (σ.n : Int) ≤ x from fun x h => by rw [HI.out.n]; exact h)
  refine (readno_c p σ _ (HR.out _ (by omega)) hS).mono ?_
  clear hS
  rintro e w' ⟨rfl, hS⟩
  go_wp2_with fail
  refine (readno_c p σ _ (HR.out _ (by omega)) hS).mono ?_
  clear hS
  rintro e w' ⟨rfl, hS⟩
  go_wp2_with fail
  refine (filled_c 1 (0) 512 (by omega) (by omega) hS).mono ?_
  clear hS
  rintro e w' ⟨b, rfl, hS⟩
  go_wp2_with fail
  refine (wnof p b σ _ _ 512 ((HR.out _ (by omega)).imp_right .inl) (by omega) hS).mono ?_
  clear hS
  rintro e w' ⟨rfl, hS⟩
  go_wp2_with fail
  refine (filled_c 1 (0) 512 (by omega) (by omega) hS).mono ?_
  clear hS
  rintro e w' ⟨b, rfl, hS⟩
  go_wp2_with fail
  refine (wnof p b σ _ _ 512 ((HR.out _ (by omega)).imp_right .inl) (by omega) hS).mono ?_
  clear hS
  rintro e w' ⟨rfl, hS⟩
  go_wp2_with fail
  refine (filled_c 1 (-1) 511 (by omega) (by omega) hS).mono ?_
  clear hS
  rintro e w' ⟨b, rfl, hS⟩
  go_wp2_with fail
  refine (wnof p b σ 0 _ 511 (.inr (.inr (by omega))) (by omega) hS).mono ?_
  clear hS
  rintro e w' ⟨rfl, hS⟩
  go_wp2_with fail
  refine (filled_c 1 (1) 513 (by omega) (by omega) hS).mono ?_
  clear hS
  rintro e w' ⟨b, rfl, hS⟩
  go_wp2_with fail
  refine (wnof p b σ 0 _ 513 (.inr (.inr (by omega))) (by omega) hS).mono ?_
  clear hS
  rintro e w' ⟨rfl, hS⟩
  go_wp2_with fail
  refine (wno_c p σ 0 _ 0 0 (.inr (.inr (by omega))) (by omega) hS).mono ?_
  rintro e w' ⟨rfl, rfl⟩
  go_wp2_with fail
  have HP := Lib.hid (show Calls Try.prog 21 #[.pointer (some ⟨p, 0, none⟩)] _ _ from pending_c p σ hS)
  rw [HI.out.m] at HP
  refine HP.out.mono ?_
  clear HP
  rintro e w' ⟨rfl, rfl⟩
  go_wp2_with fail
  refine (pick_c limit 5 _ m1 m2 (by omega) (by omega)).mono ?_
  rintro e w' ⟨rfl, rfl⟩
  rw [← HN.out]
  go_wp2_with fail
  refine (limit_c p σ n (by omega) (by omega) hS).mono ?_
  clear hS
  rintro e w1 ⟨rfl, hS⟩
  obtain ⟨τ, hI, hS⟩ : ∃ τ, Is τ true n 0 ∧ SL W (StoreP p τ :: [old W]) w1 := ⟨_, HI.out.limit (n : Int) (n : Int) (by omega), hS⟩
  clear HI HR
  have HI := Lib.hid hI; clear hI
  go_wp2
  go_loopw [22] (fun i wr => ∃ (k : Nat) (ρ : St), k ≤ n ∧ i = .int .i64 k ∧ Hid (Is ρ true ((n : Int) - k) k) ∧ SL W [StoreP p ρ, old W] wr) (fun i _ => n - (intOf i).toNat)
  case atStart => exact ⟨0, τ, Nat.zero_le _, rfl, Lib.hid (by rw [show (n : Int) - (0 : Nat) = n from by omega]; exact HI.out), hS⟩
  case round =>
    clear hS HI
    obtain ⟨k, ρ, hk, rfl, HI, hS⟩ := hrel
    by_cases hlt : k < n
    · go_wp2_with fail
      refine (filled_c k 0 512 (by omega) (by omega) hS).mono ?_
      clear hS
      rintro e w' ⟨b, rfl, hS⟩
      go_wp2_with fail
      refine (wnof p b ρ 4 _ 512 (by rw [HI.out.n]; omega) (by omega) hS).mono ?_
      clear hS
      rintro e w' ⟨rfl, hS⟩
      go_wp2_with fail
      refine (filled_c k 0 512 (by omega) (by omega) hS).mono ?_
      clear hS
      rintro e w' ⟨b, rfl, hS⟩
      obtain ⟨m, hm, hm3⟩ : ∃ m : Nat, (k : Int) % 3 = (m : Int) ∧ m < 3 := ⟨k % 3, by omega, by omega⟩
      go_wp2_with fail
      refine (wfill p b ρ m k (by rw [HI.out.n]; exact hm3) (by rw [HI.out.m]; omega) (by rw [HI.out.left]; omega) (fun _ => by rw [HI.out.left]; omega) hS).mono ?_
      clear hS
      rintro e w' ⟨rfl, hS⟩
      have HI2 := Lib.hid (HI.out.write m (filledL k 512) ((n : Int) - (k + 1 : Nat)) (by omega))
      go_wp2
      go_roundw
      case rel => exact ⟨k + 1, _, by omega, by go_num, HI2, hS⟩
      case measure => simp [intOf]; omega
    · have hkn : (n : Int) - k = 0 := by omega
      have HI := Lib.hid (show Is ρ true 0 k from hkn ▸ HI.out)
      clear hkn
      go_wp2_with fail
      refine (filled_c 9 (0) 512 (by omega) (by omega) hS).mono ?_
      clear hS
      rintro e w' ⟨b, rfl, hS⟩
      go_wp2_with fail
      refine (wfullf p b ρ 0 _ (by rw [HI.out.n]; omega) HI.out.lim HI.out.left hS).mono ?_
      clear hS
      rintro e w' ⟨rfl, hS⟩
      go_wp2_with fail
      refine (filled_c 9 (1) 513 (by omega) (by omega) hS).mono ?_
      clear hS
      rintro e w' ⟨b, rfl, hS⟩
      go_wp2_with fail
      refine (wnof p b ρ 0 _ 513 (.inr (.inr (by omega))) (by omega) hS).mono ?_
      clear hS
      rintro e w' ⟨rfl, hS⟩
      go_wp2_with fail
      refine (sync_c p ρ hS).mono ?_
      clear hS
      rintro e w2 ⟨rfl, hS⟩
      obtain ⟨σ1, hI, hS⟩ : ∃ τ, Is τ true 0 0 ∧ SL W (StoreP p τ :: [old W]) w2 := ⟨_, HI.out.sync, hS⟩
      clear HI
      have HI := Lib.hid hI; clear hI
      go_wp2_with fail
      refine (filled_c 9 (0) 512 (by omega) (by omega) hS).mono ?_
      clear hS
      rintro e w' ⟨b, rfl, hS⟩
      go_wp2_with fail
      refine (wfullf p b σ1 1 _ (by rw [HI.out.n]; omega) HI.out.lim HI.out.left hS).mono ?_
      clear hS
      rintro e w' ⟨rfl, hS⟩
      go_wp2_with fail
      refine (limit_c p σ1 1 (by omega) (by omega) hS).mono ?_
      clear hS
      rintro e w3 ⟨rfl, hS⟩
      obtain ⟨σ2, hI, hS⟩ : ∃ τ, Is τ true 1 0 ∧ SL W (StoreP p τ :: [old W]) w3 := ⟨_, HI.out.limit 1 1 (by omega), hS⟩
      clear HI
      have HI := Lib.hid hI; clear hI
      go_wp2_with fail
      refine (filled_c 9 (0) 512 (by omega) (by omega) hS).mono ?_
      clear hS
      rintro e w' ⟨b, rfl, hS⟩
      go_wp2_with fail
      refine (wfill p b σ2 1 9 (by rw [HI.out.n]; omega) (by rw [HI.out.m]; omega) (by rw [HI.out.left]; omega) (fun _ => by rw [HI.out.left]; omega) hS).mono ?_
      clear hS
      rintro e w4 ⟨rfl, hS⟩
      obtain ⟨σ3, hI, hS⟩ : ∃ τ, Is τ true 0 1 ∧ SL W (StoreP p τ :: [old W]) w4 := ⟨_, HI.out.write 1 (filledL 9 512) 0 (by omega), hS⟩
      clear HI
      have HI := Lib.hid hI; clear hI
      go_wp2_with fail
      refine (filled_c 9 (0) 512 (by omega) (by omega) hS).mono ?_
      clear hS
      rintro e w' ⟨b, rfl, hS⟩
      go_wp2_with fail
      refine (wfullf p b σ3 1 _ (by rw [HI.out.n]; omega) HI.out.lim HI.out.left hS).mono ?_
      clear hS
      rintro e w' ⟨rfl, hS⟩
      go_wp2_with fail
      refine (limit_c p σ3 (-(F : Int)) (by omega) (by omega) hS).mono ?_
      clear hS
      rintro e w5 ⟨rfl, hS⟩
      obtain ⟨σ4, hI, hS⟩ : ∃ τ, Is τ true 0 1 ∧ SL W (StoreP p τ :: [old W]) w5 := ⟨_, HI.out.limit (-(F : Int)) 0 (by omega), hS⟩
      clear HI
      have HI := Lib.hid hI; clear hI
      go_wp2_with fail
      refine (filled_c 9 (0) 512 (by omega) (by omega) hS).mono ?_
      clear hS
      rintro e w' ⟨b, rfl, hS⟩
      go_wp2_with fail
      refine (wfullf p b σ4 1 _ (by rw [HI.out.n]; omega) HI.out.lim HI.out.left hS).mono ?_
      clear hS
      rintro e w' ⟨rfl, hS⟩
      go_wp2_with fail
      have HP := Lib.hid (show Calls Try.prog 21 #[.pointer (some ⟨p, 0, none⟩)] _ _ from pending_c p σ4 hS)
      rw [HI.out.m] at HP
      refine HP.out.mono ?_
      clear HP
      rintro e w' ⟨rfl, rfl⟩
      go_wp2
      go_ret
      exact ⟨rfl, hS.below (List.mem_of_getElem? (i := 1) rfl)⟩

/-- The statement. -/
theorem blockFirm_holds : Rows.BlockFirmSaid := over_BlockFirm firm_walk

end Go.Proofs.Ytinmonlhfnaiiaa
