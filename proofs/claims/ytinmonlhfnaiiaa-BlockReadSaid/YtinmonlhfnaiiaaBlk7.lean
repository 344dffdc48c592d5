/- What the laws share: contracts in the laws' own spelling, the made store's facts. -/
import Derived.Test.YtinmonlhfnaiiaaBlk6
namespace Go.Proofs.Ytinmonlhfnaiiaa
open Go.Sl Go.RowKit
set_option linter.unusedVariables false
set_option linter.unusedSimpArgs false

theorem crash_none (σ : St) : σ.crash [] = σ.safe := by
  unfold St.crash
  have : ∀ k, crashN σ.safe σ.pend [] k = σ.safe := by
    intro k
    induction k with
    | zero => rfl
    | succ k ih =>
      simp only [crashN, ih]
      split
      · rfl
      · rename_i x _
        rw [step_first (q := 0) (kk := 0) (by rfl) (by rfl) (by rfl)]
        simp [spl]
  exact this _

theorem same_t (a b : Option Addr) (c1 c2 : Nat) (xs ys : List Int) (n m : Nat) (hn : n = xs.length) (hm : m = ys.length) (hb : n ≤ 100000000) (hb2 : m ≤ 100000000) (w : World) (h1 : Rd w 1 (.slice a n c1) n (u8s xs)) (h2 : Rd w 1 (.slice b m c2) m (u8s ys)) (he : xs = ys) :
    Calls Try.prog 18 #[.slice a n c1, .slice b m c2] w fun e w' => e = .returned (.bool true) ∧ ∃ n, w' = w.drewN n := by
  have h := same_c a b c1 c2 xs ys n m hn hm hb hb2 w h1 h2
  rw [decide_eq_true he] at h; exact h

/-- A row that begins with some bytes reads as these. -/
theorem rd_img {g w : World} {L : List HP} {b N c : Nat} {l : List Int} {sp : List Value} (h : SL g L w) (hm : row b 5 (u8s l ++ sp) ∈ L) (hN : N = l.length) : Rd w 1 (.slice (some ⟨b, 0, none⟩) N c) N (u8s l) := by
  refine h.rd_row hm (by rw [u8s_len]; omega) fun j u hu => ?_
  rw [Nat.zero_add, List.getElem?_append_left ((List.getElem?_eq_some_iff.1 hu).1)]; exact hu

theorem same_s {g w : World} {L : List HP} {b1 b2 N c1 c2 : Nat} {l1 l2 : List Int} {s1 s2 : List Value} (hS : SL g L w) (m1 : row b1 5 (u8s l1 ++ s1) ∈ L) (m2 : row b2 5 (u8s l2 ++ s2) ∈ L) (h1 : N = l1.length) (h2 : N = l2.length) (hb : N ≤ 100000000) (he : l1 = l2) :
    Calls Try.prog 18 #[.slice (some ⟨b1, 0, none⟩) N c1, .slice (some ⟨b2, 0, none⟩) N c2] w fun e w' => e = .returned (.bool true) ∧ SL g L w' := by
  refine (same_t _ _ c1 c2 l1 l2 N N h1 h2 hb hb w (rd_img hS m1 h1) (rd_img hS m2 h2) he).mono ?_
  rintro e w' ⟨he, d, rfl⟩
  exact ⟨he, hS.drewN d⟩

theorem image_len {σ : St} (hw : σ.Wf) : σ.image.length = σ.n * 512 := by
  have := imgN_len hw σ.pend.length (Nat.le_refl _)
  simpa [imgN, St.image] using this

theorem crash_len {σ : St} (hw : σ.Wf) (picks : List Int) : (σ.crash picks).length = σ.n * 512 := crashN_len hw picks _ (Nat.le_refl _)

theorem made_facts (n : Nat) (sl pl : List Int) : (madeSt n sl pl).n = n ∧ (madeSt n sl pl).safe = (wrs (newSt n) sl).image ∧ (madeSt n sl pl).limited = false ∧ (madeSt n sl pl).left = -(sl.length : Int) - pl.length ∧ (madeSt n sl pl).pend.length = pl.length := by
  obtain ⟨a1, a2, a3, a4, a5⟩ := wrs_facts sl (newSt n)
  obtain ⟨b1, b2, b3, b4, b5⟩ := wrs_facts pl (wrs (newSt n) sl).sync
  refine ⟨?_, ?_, ?_, ?_, ?_⟩
  · show (wrs _ pl).n = _; rw [b1]; exact a1
  · show (wrs _ pl).safe = _; rw [b2]; rfl
  · show (wrs _ pl).limited = _; rw [b3]; exact a3
  · show (wrs _ pl).left = _; rw [b4]; show (wrs (newSt n) sl).left - _ = _; rw [a4]; simp [newSt]
  · show (wrs _ pl).pend.length = _; rw [b5]; simp [St.sync]

theorem wfill0 {g w : World} {L : List HP} (p b : Nat) (σ : St) (x : Int) (hn : 0 < σ.n) (hp : σ.pend.length < 1000000000) (hl : -1000000000 < σ.left)
    (hlim : σ.limited = true → σ.left ≠ 0) (hS : SL g (row b 5 (u8s (filledL x 512)) :: StoreP p σ :: L) w) :
    Calls Try.prog 12 #[.pointer (some ⟨p, 0, none⟩), .int .i64 0, .slice (some ⟨b, 0, none⟩) 512 512] w fun e w' => e = .returned (.int .i64 0) ∧ SL g (StoreP p (σ.write 0 (filledL x 512)) :: L) w' := by
  refine (write_c p σ 0 _ (filledL x 512) hn (filledL_len _ _) hp hl hlim (hS.pull 1) (fun w' h => h.rd_row (.head _) (by rw [u8s_len, filledL_len]) (fun j u hu => by rw [Nat.zero_add]; exact hu))).mono ?_
  rintro e w2 ⟨rfl, hS2⟩
  exact ⟨rfl, (hS2.pull 1).tail⟩

theorem crash_c2 {g w : World} {L : List HP} (p : Nat) (σ : St) (pa : Option Addr) (pc : Nat) (picks : List Int) (R N : Nat) (hR : picks.length = R) (hN : N = σ.n * 512) (hpl : R ≤ 9223372036854775807) (hpb : ∀ x ∈ picks, -9223372036854775808 ≤ x ∧ x ≤ 9223372036854775807)
    (hS : SL g (StoreP p σ :: L) w) (hP : ∀ w', SL g L w' → Rd w' 1 (.slice pa R pc) R (i64s picks)) :
    Calls Try.prog 16 #[.pointer (some ⟨p, 0, none⟩), .slice pa R pc] w fun e w' => ∃ b, e = .returned (.slice (some ⟨b, 0, none⟩) N N) ∧ ∃ sp, SL g (row b 5 (u8s (σ.crash picks) ++ sp) :: StoreP p σ :: L) w' := by
  subst hR; subst hN
  exact crash_c p σ pa pc picks hpl hpb hS hP

theorem image_c2 {g w : World} {L : List HP} (p : Nat) (σ : St) (N : Nat) (hN : N = σ.n * 512) (hS : SL g (StoreP p σ :: L) w) :
    Calls Try.prog 20 #[.pointer (some ⟨p, 0, none⟩)] w fun e w' => ∃ b, e = .returned (.slice (some ⟨b, 0, none⟩) N N) ∧ ∃ sp, SL g (row b 5 (u8s σ.image ++ sp) :: StoreP p σ :: L) w' := by
  subst hN
  exact image_c p σ hS


end Go.Proofs.Ytinmonlhfnaiiaa
