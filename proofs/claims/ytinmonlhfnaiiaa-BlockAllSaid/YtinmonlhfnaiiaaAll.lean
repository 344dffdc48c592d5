/- Proved: whatever the three arguments are, the law arcadelaw10.BlockAll returns true: with a whole write picked for each pending one all of it is left by Crash, with none picked nothing of it, and the store goes on. No condition. -/
import Derived.Test.YtinmonlhfnaiiaaAllF
import Derived.Test.YtinmonlhfnaiiaaBlk6
namespace Go.Proofs.Ytinmonlhfnaiiaa
open Go.Sl Go.RowKit
set_option linter.unusedVariables false
set_option linter.unusedSimpArgs false

theorem crash_whole {σ : St} (hw : σ.Wf) (p q : Int) (hq : (if p < 0 then -(p + 1) else p) = q) (hk : q % 513 = ((512 : Nat) : Int)) : ∀ k, k ≤ σ.pend.length → crashN σ.safe σ.pend (List.replicate σ.pend.length p) k = imgN σ.safe σ.pend k
  | 0, _ => by simp [crashN, imgN]
  | k + 1, h => by
    have hx : σ.pend[k]? = some σ.pend[k] := List.getElem?_eq_getElem (by omega)
    obtain ⟨h1, h2⟩ := hw.pend σ.pend[k] (List.getElem_mem (by omega))
    have hp : (List.replicate σ.pend.length p).getD k 0 = p := by
      rw [List.getD_eq_getElem?_getD, List.getElem?_replicate, if_pos (by omega)]; rfl
    rw [crashN_succ _ _ _ k _ hx, imgN_succ _ _ k _ hx, crash_whole hw p q hq hk k (by omega), hp]
    cases hl : (q / 513 % 2 == 1) with
    | false => rw [step_first hq hk hl, List.take_of_length_le (by omega)]
    | true => rw [step_last (m := 0) hq hk hl rfl, Nat.add_zero, List.drop_zero]

theorem crash_all {σ : St} (hw : σ.Wf) (p q : Int) (hq : (if p < 0 then -(p + 1) else p) = q) (hk : q % 513 = ((512 : Nat) : Int)) : σ.crash (List.replicate σ.pend.length p) = σ.image := by
  unfold St.crash
  rw [crash_whole hw p q hq hk _ (Nat.le_refl _)]
  simp [imgN, St.image]

theorem crash_none (σ : St) : σ.crash [] = σ.safe := by
  unfold St.crash
  have : ∀ k, crashN σ.safe σ.pend [] k = σ.safe := by
    intro k
    induction k with
    | zero => rfl
    | succ k ih =>
      simp only [crashN, ih]
      split
      · rfl
      · rename_i x _
        rw [step_first (q := 0) (kk := 0) (by rfl) (by rfl) (by rfl)]
        simp [spl]
  exact this _

theorem same_t (a b : Option Addr) (c1 c2 : Nat) (xs ys : List Int) (n m : Nat) (hn : n = xs.length) (hm : m = ys.length) (hb : n ≤ 100000000) (hb2 : m ≤ 100000000) (w : World) (h1 : Rd w 1 (.slice a n c1) n (u8s xs)) (h2 : Rd w 1 (.slice b m c2) m (u8s ys)) (he : xs = ys) :
    Calls Try.prog 18 #[.slice a n c1, .slice b m c2] w fun e w' => e = .returned (.bool true) ∧ ∃ n, w' = w.drewN n := by
  have h := same_c a b c1 c2 xs ys n m hn hm hb hb2 w h1 h2
  rw [decide_eq_true he] at h; exact h

/-- A row that begins with some bytes reads as these. -/
theorem rd_img {g w : World} {L : List HP} {b N c : Nat} {l : List Int} {sp : List Value} (h : SL g L w) (hm : row b 5 (u8s l ++ sp) ∈ L) (hN : N = l.length) : Rd w 1 (.slice (some ⟨b, 0, none⟩) N c) N (u8s l) := by
  refine h.rd_row hm (by rw [u8s_len]; omega) fun j u hu => ?_
  rw [Nat.zero_add, List.getElem?_append_left ((List.getElem?_eq_some_iff.1 hu).1)]; exact hu

theorem same_s {g w : World} {L : List HP} {b1 b2 N c1 c2 : Nat} {l1 l2 : List Int} {s1 s2 : List Value} (hS : SL g L w) (m1 : row b1 5 (u8s l1 ++ s1) ∈ L) (m2 : row b2 5 (u8s l2 ++ s2) ∈ L) (h1 : N = l1.length) (h2 : N = l2.length) (hb : N ≤ 100000000) (he : l1 = l2) :
    Calls Try.prog 18 #[.slice (some ⟨b1, 0, none⟩) N c1, .slice (some ⟨b2, 0, none⟩) N c2] w fun e w' => e = .returned (.bool true) ∧ SL g L w' := by
  refine (same_t _ _ c1 c2 l1 l2 N N h1 h2 hb hb w (rd_img hS m1 h1) (rd_img hS m2 h2) he).mono ?_
  rintro e w' ⟨he, d, rfl⟩
  exact ⟨he, hS.drewN d⟩

theorem image_len {σ : St} (hw : σ.Wf) : σ.image.length = σ.n * 512 := by
  have := imgN_len hw σ.pend.length (Nat.le_refl _)
  simpa [imgN, St.image] using this

theorem crash_len {σ : St} (hw : σ.Wf) (picks : List Int) : (σ.crash picks).length = σ.n * 512 := crashN_len hw picks _ (Nat.le_refl _)

theorem made_facts (n : Nat) (sl pl : List Int) : (madeSt n sl pl).n = n ∧ (madeSt n sl pl).safe = (wrs (newSt n) sl).image ∧ (madeSt n sl pl).limited = false ∧ (madeSt n sl pl).left = -(sl.length : Int) - pl.length ∧ (madeSt n sl pl).pend.length = pl.length := by
  obtain ⟨a1, a2, a3, a4, a5⟩ := wrs_facts sl (newSt n)
  obtain ⟨b1, b2, b3, b4, b5⟩ := wrs_facts pl (wrs (newSt n) sl).sync
  refine ⟨?_, ?_, ?_, ?_, ?_⟩
  · show (wrs _ pl).n = _; rw [b1]; exact a1
  · show (wrs _ pl).safe = _; rw [b2]; rfl
  · show (wrs _ pl).limited = _; rw [b3]; exact a3
  · show (wrs _ pl).left = _; rw [b4]; show (wrs (newSt n) sl).left - _ = _; rw [a4]; simp [newSt]
  · show (wrs _ pl).pend.length = _; rw [b5]; simp [St.sync]

theorem wfill0 {g w : World} {L : List HP} (p b : Nat) (σ : St) (x : Int) (hn : 0 < σ.n) (hp : σ.pend.length < 1000000000) (hl : -1000000000 < σ.left)
    (hlim : σ.limited = true → σ.left ≠ 0) (hS : SL g (row b 5 (u8s (filledL x 512)) :: StoreP p σ :: L) w) :
    Calls Try.prog 12 #[.pointer (some ⟨p, 0, none⟩), .int .i64 0, .slice (some ⟨b, 0, none⟩) 512 512] w fun e w' => e = .returned (.int .i64 0) ∧ SL g (StoreP p (σ.write 0 (filledL x 512)) :: L) w' := by
  refine (write_c p σ 0 _ (filledL x 512) hn (filledL_len _ _) hp hl hlim (hS.pull 1) (fun w' h => h.rd_row (.head _) (by rw [u8s_len, filledL_len]) (fun j u hu => by rw [Nat.zero_add]; exact hu))).mono ?_
  rintro e w2 ⟨rfl, hS2⟩
  exact ⟨rfl, (hS2.pull 1).tail⟩

theorem crash_c2 {g w : World} {L : List HP} (p : Nat) (σ : St) (pa : Option Addr) (pc : Nat) (picks : List Int) (R N : Nat) (hR : picks.length = R) (hN : N = σ.n * 512) (hpl : R ≤ 1000000000) (hpb : ∀ x ∈ picks, -9223372036854775808 ≤ x ∧ x ≤ 9223372036854775807)
    (hS : SL g (StoreP p σ :: L) w) (hP : ∀ w', SL g L w' → Rd w' 1 (.slice pa R pc) R (i64s picks)) :
    Calls Try.prog 16 #[.pointer (some ⟨p, 0, none⟩), .slice pa R pc] w fun e w' => ∃ b, e = .returned (.slice (some ⟨b, 0, none⟩) N N) ∧ ∃ sp, SL g (row b 5 (u8s (σ.crash picks) ++ sp) :: StoreP p σ :: L) w' := by
  subst hR; subst hN
  exact crash_c p σ pa pc picks hpl hpb hS hP

theorem image_c2 {g w : World} {L : List HP} (p : Nat) (σ : St) (N : Nat) (hN : N = σ.n * 512) (hS : SL g (StoreP p σ :: L) w) :
    Calls Try.prog 20 #[.pointer (some ⟨p, 0, none⟩)] w fun e w' => ∃ b, e = .returned (.slice (some ⟨b, 0, none⟩) N N) ∧ ∃ sp, SL g (row b 5 (u8s σ.image ++ sp) :: StoreP p σ :: L) w' := by
  subst hN
  exact image_c p σ hS

set_option maxRecDepth 100000 in
set_option maxHeartbeats 8000000 in
theorem all_walk : WalkSaid_BlockAll := by
  intro sectors sa slen scap sz pa plen pcap pz w w0 ws wp
  obtain ⟨o1, o2⟩ := wf64 w0
  obtain ⟨l1, l2, l3⟩ := ws.len_cap
  obtain ⟨m1, m2, m3⟩ := wp.len_cap
  have HWS := Lib.hid ws; have HWP := Lib.hid wp; have HL3 := Lib.hid l3; have HM3 := Lib.hid m3
  have HS := Lib.hid (SL.start w)
  clear ws wp l3 m3 w0
  obtain ⟨n, hn⟩ : ∃ n, n = pkN sectors 5 + 1 := ⟨_, rfl⟩
  have hn1 : 1 ≤ n := by omega
  have hn2 : n ≤ 5 := by have := pkN_lt sectors 5 (by omega); omega
  have HN := Lib.hid hn; clear hn
  obtain ⟨A, hA⟩ : ∃ A, A = min slen 6 := ⟨_, rfl⟩
  obtain ⟨B, hB⟩ : ∃ B, B = min plen 6 := ⟨_, rfl⟩
  have hA6 : A ≤ 6 := by omega
  have hB6 : B ≤ 6 := by omega
  have hAs : A ≤ slen := by omega
  have hBp : B ≤ plen := by omega
  have HA := Lib.hid hA; have HB := Lib.hid hB; clear hA hB
  obtain ⟨sl, hsl⟩ : ∃ sl, sl = sz.take A := ⟨_, rfl⟩
  obtain ⟨pl, hpl⟩ : ∃ pl, pl = pz.take B := ⟨_, rfl⟩
  have HSl := Lib.hid (show A = sl.length by rw [hsl, List.length_take]; have := HL3.out; omega)
  have HPl := Lib.hid (show B = pl.length by rw [hpl, List.length_take]; have := HM3.out; omega)
  have HXA := Lib.hid (show ∀ x ∈ sl, -9223372036854775808 ≤ x ∧ x ≤ 9223372036854775807 from fun x hx => wf64 (HWS.out.wf x (List.mem_of_mem_take (hsl ▸ hx))))
  have HXB := Lib.hid (show ∀ x ∈ pl, -9223372036854775808 ≤ x ∧ x ≤ 9223372036854775807 from fun x hx => wf64 (HWP.out.wf x (List.mem_of_mem_take (hpl ▸ hx))))
  have HRA := Lib.hid (show ∀ (L : List HP), Sl.old w ∈ L → ∀ w', SL w L w' → Rd w' 1 (.slice sa A scap) A (i64s sl) from fun L hL w' h => by rw [hsl]; exact HWS.out.rd hL A hAs scap w' h)
  have HRB := Lib.hid (show ∀ (L : List HP), Sl.old w ∈ L → ∀ w', SL w L w' → Rd w' 1 (.slice pa B pcap) B (i64s pl) from fun L hL w' h => by rw [hpl]; exact HWP.out.rd hL B hBp pcap w' h)
  clear hsl hpl HL3 HM3 hAs hBp
  go_enter Try.func6, Try.ntmps6
  go_wp2_with fail
  refine (pick_c sectors 5 w o1 o2 (by omega) (by omega)).mono ?_
  rintro e w' ⟨rfl, rfl⟩
  clear o1 o2
  have hnn : (1 : Int) + (pkN sectors 5 : Int) = (n : Int) := by have := HN.out; omega
  go_wp2_with fail
  refine (few_c sa slen scap 6 w l1 l2 (by omega)).mono ?_
  rintro e w' ⟨rfl, rfl⟩
  rw [← HA.out]
  go_wp2_with fail
  refine (few_c pa plen pcap 6 w m1 m2 (by omega)).mono ?_
  rintro e w' ⟨rfl, rfl⟩
  rw [← HB.out]
  clear l1 l2 m1 m2
  go_wp2_with fail
  refine (made_c n hn1 (by omega) sa pa scap pcap sl pl A B HSl.out HPl.out (by omega) (by omega) HXA.out HXB.out HS.out (HRA.out _ (.head _)) (HRB.out _ (.head _))).mono ?_
  rintro e w1 ⟨p, rfl, hS⟩
  go_wp2_with fail
  refine (made_c n hn1 (by omega) sa none scap 0 sl [] A 0 HSl.out rfl (by omega) (by omega) HXA.out (by simp) hS (HRA.out _ (.tail _ (.head _))) (fun _ _ => Rd.nil _ _ _)).mono ?_
  clear hS
  rintro e w2 ⟨t, rfl, hS⟩
  have hS : SL w (ownS 3 1 (.slice none 0 0) 0 [] :: ownS 3 1 (.slice none 0 0) 0 [] :: StoreP p (madeSt n sl pl) :: StoreP t (madeSt n sl []) :: [Sl.old w]) w2 := ((hS.pull 1).own_nil _ _).own_nil _ _
  go_wp2_with fail
  have Hbnd := Lib.hid (show ∀ (k : Nat) (b : Nat) (v : Int) (w' : World) (L : List HP), SL w L w' → row b 3 [.int .i64 v] ∈ L → Rd w' 1 (.slice (some ⟨b, 0, none⟩) 1 1) 1 [.int .i64 v] from fun _ b v w' L h hm => h.rd_row hm rfl (fun j u hu => by rw [Nat.zero_add]; exact hu))
  have Hone := Lib.hid (show ∀ (v : Int), ∀ u ∈ [Value.int .i64 v], u.oneCell' = true from fun v u hu => by simp at hu; subst hu; rfl)
  go_loopw [12, 13, 14] (fun s1 s2 i wr => ∃ k : Nat, k ≤ B ∧ i = .int .i64 k ∧ SL w (ownS 3 1 s1 k (i64s (List.replicate k 512)) :: ownS 3 1 s2 k (i64s (List.replicate k (-1026))) :: StoreP p (madeSt n sl pl) :: StoreP t (madeSt n sl []) :: [Sl.old w]) wr) (fun _ _ i _ => B - (intOf i).toNat)
  case atStart => exact ⟨0, Nat.zero_le _, rfl, hS⟩
  case round =>
    clear hS
    obtain ⟨k, hk, rfl, hS⟩ := hrel
    by_cases hlt : k < B
    · go_wp2_with (first | ((with_reducible show wpList _ _ _ (Oper.mk _ (Op.buildSlice _ _ _) _ _ _ _ :: _) _ _); refine wpList_plain rfl (fun K hK => ?_); refine w_bs El3 Try.underlying24 hS (by decide) rfl rfl rfl ?_; clear hS; intro b w hS l' hl; simp only [List.set_cons_succ, List.set_cons_zero] at hl; subst hl; try simp only [ev, nth, Option.getD_some, Option.getD_none] at hS; refine hK _ _ ?_; clear hK K) | ((with_reducible show wpList _ _ _ (Oper.mk _ (Op.call (Call.mk (Callee.builtin Builtin.append) _ _)) _ _ _ _ :: _) _ _); refine wpList_plain rfl (fun K hK => ?_); refine w_append El3 Try.underlying24 hS 1 rfl rfl rfl (Hbnd.out 0 b 512 w _ hS (.head _)) (Hone.out 512) (by unfold maxLen; omega) (by omega) ?_; clear hS; intro s' w hS hnil l' hl; simp only [List.set_cons_succ, List.set_cons_zero] at hl; subst hl; refine hK _ _ ?_; clear hK K) | ((with_reducible show wpList _ _ _ (Oper.mk _ (Op.call (Call.mk (Callee.builtin Builtin.append) _ _)) _ _ _ _ :: _) _ _); refine wpList_plain rfl (fun K hK => ?_); refine w_append El3 Try.underlying24 hS 3 rfl rfl rfl (Hbnd.out 0 b (-1026) w _ hS (.head _)) (Hone.out (-1026)) (by unfold maxLen; omega) (by omega) ?_; clear hS; intro s' w hS hnil l' hl; simp only [List.set_cons_succ, List.set_cons_zero] at hl; subst hl; refine hK _ _ ?_; clear hK K))
      have e1 : ∀ v : Int, i64s (List.replicate k v) ++ [Value.int .i64 v] = i64s (List.replicate (k + 1) v) := fun v => by simp [i64s, List.replicate_succ']
      have hS := (((hS.pull 1).tail.pull 2).tail).pull 1
      go_roundw
      case rel => exact ⟨k + 1, by omega, by go_num, by rw [← e1, ← e1]; exact hS⟩
      case measure => simp [intOf]; omega
    · have hkB : k = B := by omega
      have HK := Lib.hid hkB; clear hkB
      obtain ⟨a1, c1, rfl⟩ := rd_shape hS.own_rd
      obtain ⟨a2, c2, rfl⟩ := rd_shape (hS.pull 1).own_rd
      obtain ⟨f1, f2, f3, f4, f5⟩ := made_facts n sl pl
      obtain ⟨t1, t2, t3, t4, t5⟩ := made_facts n sl []
      obtain ⟨σ, hσ⟩ : ∃ σ, σ = madeSt n sl pl := ⟨_, rfl⟩
      obtain ⟨τ, hτ⟩ : ∃ τ, τ = madeSt n sl [] := ⟨_, rfl⟩
      rw [← hσ, ← hτ] at hS
      have hw := st_wf (hS.pull 2)
      have hwt := st_wf (hS.pull 3)
      obtain ⟨N, hN⟩ : ∃ N, N = n * 512 := ⟨_, rfl⟩
      have HNσ := Lib.hid (show N = σ.n * 512 by rw [hσ, f1, hN])
      have HNτ := Lib.hid (show N = τ.n * 512 by rw [hτ, t1, hN])
      have HNs := Lib.hid (show N = σ.sync.n * 512 from HNσ.out)
      have hNb : N ≤ 100000 := by omega
      have hkp : k = σ.pend.length := by rw [hσ, f5, HK.out, HPl.out]
      have E1 := Lib.hid (show σ.crash (List.replicate k 512) = σ.image by rw [hkp]; exact crash_all hw 512 512 (by rfl) (by rfl))
      have E2 := Lib.hid (show σ.crash (List.replicate k (-1026)) = σ.image by rw [hkp]; exact crash_all hw (-1026) 1025 (by rfl) (by rfl))
      have E3 := Lib.hid (show σ.crash [] = τ.image by
        rw [crash_none, hσ, f2, hτ]
        have : (madeSt n sl []).pend = [] := List.eq_nil_of_length_eq_zero t5
        unfold St.image
        rw [this]; exact t2.symm)
      have E4 := Lib.hid (show σ.sync.crash [] = σ.image by rw [crash_none]; rfl)
      have L1 := Lib.hid (show N = σ.image.length by rw [image_len hw]; exact HNσ.out)
      have L2 := Lib.hid (show N = τ.image.length by rw [image_len hwt]; exact HNτ.out)
      have P0 := Lib.hid (show σ.sync.pend.length = 0 from rfl)
      have Lm := Lib.hid (show σ.sync.limited = false by show σ.limited = false; rw [hσ]; exact f3)
      have Lf := Lib.hid (show -1000000000 < σ.sync.left by show _ < σ.left; rw [hσ, f4]; have := HSl.out; have := HPl.out; omega)
      have Nn := Lib.hid (show 0 < σ.sync.n by show 0 < σ.n; rw [hσ, f1]; omega)
      have hk6 : k ≤ 6 := by omega
      clear f1 f2 f3 f4 f5 t1 t2 t3 t4 t5 hN hkp hw hwt hσ hτ HRA HRB HXA HXB HWS HWP Hbnd Hone HN hnn
      go_wp2_with fail
      refine (crash_c2 p σ a1 c1 (List.replicate k 512) k N (by simp) HNσ.out (by omega) (by intro x hx; have := List.eq_of_mem_replicate hx; omega) (hS.pull 2) (fun w' h => mem_rd (E := 3) h (.head _))).mono ?_
      clear hS
      rintro e v1 ⟨b1, rfl, s1, hS⟩
      rw [E1.out] at hS
      go_wp2_with fail
      refine (crash_c2 p σ a2 c2 (List.replicate k (-1026)) k N (by simp) HNσ.out (by omega) (by intro x hx; have := List.eq_of_mem_replicate hx; omega) (hS.pull 1) (fun w' h => mem_rd (E := 3) h (.tail _ (.tail _ (.head _))))).mono ?_
      clear hS
      rintro e v2 ⟨b2, rfl, s2, hS⟩
      rw [E2.out] at hS
      go_wp2_with fail
      refine (crash_c2 p σ none 0 [] 0 N rfl HNσ.out (by omega) (by simp) (hS.pull 1) (fun w' h => Rd.nil _ _ _)).mono ?_
      clear hS
      rintro e v3 ⟨b3, rfl, s3, hS⟩
      rw [E3.out] at hS
      go_wp2_with fail
      refine (image_c2 p σ N HNσ.out (hS.pull 1)).mono ?_
      clear hS
      rintro e v4 ⟨b4, rfl, s4, hS⟩
      go_wp2_with fail
      refine (image_c2 t τ N HNτ.out (hS.pull 7)).mono ?_
      clear hS
      rintro e v5 ⟨b5, rfl, s5, hS⟩
      go_wp2_with fail
      refine (sync_c p σ (hS.pull 3)).mono ?_
      clear hS
      rintro e v6 ⟨rfl, hS⟩
      go_wp2_with fail
      refine (crash_c2 p σ.sync none 0 [] 0 N rfl HNs.out (by omega) (by simp) hS (fun w' h => Rd.nil _ _ _)).mono ?_
      clear hS
      rintro e v7 ⟨b6, rfl, s6, hS⟩
      rw [E4.out] at hS
      go_wp2_with fail
      refine (same_s hS (.tail _ (.tail _ (.tail _ (.tail _ (.tail _ (.tail _ (.tail _ (.head _)))))))) (.tail _ (.tail _ (.tail _ (.tail _ (.head _))))) L1.out L1.out (by omega) rfl).mono ?_
      clear hS
      rintro e v8 ⟨rfl, hS⟩
      go_wp2_with fail
      refine (same_s hS (.tail _ (.tail _ (.tail _ (.tail _ (.tail _ (.tail _ (.head _))))))) (.tail _ (.tail _ (.tail _ (.tail _ (.head _))))) L1.out L1.out (by omega) rfl).mono ?_
      clear hS
      rintro e v8 ⟨rfl, hS⟩
      go_wp2_with fail
      refine (same_s hS (.tail _ (.tail _ (.tail _ (.tail _ (.tail _ (.head _)))))) (.tail _ (.tail _ (.head _))) L2.out L2.out (by omega) rfl).mono ?_
      clear hS
      rintro e v8 ⟨rfl, hS⟩
      go_wp2_with fail
      refine (same_s hS (.head _) (.tail _ (.tail _ (.tail _ (.tail _ (.head _))))) L1.out L1.out (by omega) rfl).mono ?_
      clear hS
      rintro e v8 ⟨rfl, hS⟩
      go_wp2_with fail
      refine (show Calls _ _ _ _ (fun e w' => e = .returned (.int .i64 ((0 : Nat) : Int)) ∧ v8 = w') from pending_c p σ.sync (hS.pull 1)).mono ?_
      rintro e w' ⟨rfl, rfl⟩
      go_wp2_with fail
      refine (filled_c 1 0 512 (by omega) (by omega) (hS.pull 1)).mono ?_
      clear hS
      rintro e v9 ⟨bf, rfl, hS⟩
      go_wp2_with fail
      refine (wfill0 p bf σ.sync 1 Nn.out (by rw [P0.out]; omega) Lf.out (fun h => by rw [Lm.out] at h; cases h) hS).mono ?_
      clear hS
      rintro e v10 ⟨rfl, hS⟩
      go_wp2
      go_ret
      exact ⟨rfl, hS.below (List.mem_of_getElem? (i := 10) rfl)⟩

/-- The statement. -/
theorem blockAll_holds : Rows.BlockAllSaid := over_BlockAll all_walk

end Go.Proofs.Ytinmonlhfnaiiaa
