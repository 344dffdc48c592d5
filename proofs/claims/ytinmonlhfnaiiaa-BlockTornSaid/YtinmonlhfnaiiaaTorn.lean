/- Proved: whatever the four arguments are, the law arcadelaw10.BlockTorn returns true: a write that is torn by Crash leaves its first or its last bytes, the others as they were. No condition. -/
import Derived.Test.YtinmonlhfnaiiaaTornF
import Derived.Test.YtinmonlhfnaiiaaBlk6
namespace Go.Proofs.Ytinmonlhfnaiiaa
open Go.Sl Go.RowKit
set_option linter.unusedVariables false
set_option linter.unusedSimpArgs false

theorem sync_nil (σ : St) (h : σ.pend = []) : σ.image = σ.safe := by simp [St.image, h]

theorem spl_second (l d : List Int) (hl : l.length = 512) (hd : d.length = 512) (l2 : List Int) (h2 : l2.length = 512) : spl (l ++ l2) 512 d = l ++ d := by
  unfold spl
  rw [List.take_append_of_le_length (by omega), List.take_of_length_le (by omega), List.drop_eq_nil_of_le (by simp; omega), List.append_nil]

def tornSt (old v : Int) : St := (((madeSt 2 [] []).write 1 (filledL old 512)).sync).write 1 (filledL v 512)

def zeros (n : Nat) : List Int := List.replicate n 0
theorem zeros_len (n : Nat) : (zeros n).length = n := by simp [zeros]
theorem zeros_get (n i : Nat) (h : i < n) : (zeros n)[i]? = some 0 := by simp [zeros, h]
theorem zeros_add (a b : Nat) : zeros (a + b) = zeros a ++ zeros b := by simp [zeros, List.replicate_append_replicate]

theorem new_sync_safe (n : Nat) : (madeSt n [] []).safe = zeros (n * 512) := by simp [madeSt, wrs, St.sync, St.image, newSt, zeros]
theorem write_sync_safe (σ : St) (h : σ.pend = []) (n : Nat) (d : List Int) : ((σ.write n d).sync).safe = spl σ.safe (n * 512) d := by simp [St.sync, St.image, St.write, h]

theorem torn_safe (old v : Int) : (tornSt old v).safe = zeros 512 ++ filledL old 512 := by
  have e : (tornSt old v).safe = (((madeSt 2 [] []).write 1 (filledL old 512)).sync).safe := rfl
  rw [e, write_sync_safe _ rfl, new_sync_safe]
  rw [show 2 * 512 = 512 + 512 from rfl, zeros_add]
  exact spl_second _ _ (zeros_len _) (filledL_len _ _) _ (zeros_len _)

theorem torn_crash (old v p q : Int) (k : Nat) (h : (if p < 0 then -(p + 1) else p) = q) (hk : q % 513 = (k : Int)) (hkk : k ≤ 512) (last : Bool) (hl : (q / 513 % 2 == 1) = last) :
    (tornSt old v).crash [p, 4] = zeros 512 ++ (if last then (filledL old 512).take (512 - k) ++ (filledL v 512).drop (512 - k) else (filledL v 512).take k ++ (filledL old 512).drop k) := by
  have e : (tornSt old v).crash [p, 4] = crashStep (tornSt old v).safe (1, filledL v 512) p := rfl
  have lo := filledL_len old 512
  have lv := filledL_len v 512
  have lz := zeros_len 512
  rw [e, torn_safe]
  generalize zeros 512 = Z at *
  generalize filledL old 512 = O at *
  generalize filledL v 512 = V at *
  cases last with
  | false =>
    rw [step_first h hk hl, if_neg (by decide)]
    unfold spl
    have l1 : (V.take k).length = k := by rw [List.length_take]; omega
    show List.take (1 * 512) (Z ++ O) ++ V.take k ++ List.drop (1 * 512 + (V.take k).length) (Z ++ O) = _
    rw [l1, show 1 * 512 = Z.length from by omega, List.take_left', List.drop_length_add_append, List.append_assoc]
    rfl
  | true =>
    rw [step_last (m := 512 - k) h hk hl rfl, if_pos rfl]
    unfold spl
    have l1 : (V.drop (512 - k)).length = k := by rw [List.length_drop]; omega
    show List.take (1 * 512 + (512 - k)) (Z ++ O) ++ V.drop (512 - k) ++ List.drop (1 * 512 + (512 - k) + (V.drop (512 - k)).length) (Z ++ O) = _
    have l2 : List.drop (1 * 512 + (512 - k) + k) (Z ++ O) = [] := List.drop_eq_nil_of_le (by rw [List.length_append]; omega)
    rw [l1, l2, List.append_nil, show 1 * 512 + (512 - k) = Z.length + (512 - k) from by omega, List.take_length_add_append, List.append_assoc]

theorem torn_at {old v p q : Int} {k : Nat} (h : (if p < 0 then -(p + 1) else p) = q) (hk : q % 513 = (k : Int)) (hkk : k ≤ 512) (last : Bool) (hl : (q / 513 % 2 == 1) = last) (i : Nat) (hi : i < 512) :
    ((tornSt old v).crash [p, 4])[i]? = some 0 ∧ ((tornSt old v).crash [p, 4])[512 + i]? = some (if (if last then 512 - k ≤ i else i < k) then fB v i else fB old i) := by
  rw [torn_crash old v p q k h hk hkk last hl]
  have lo := filledL_len old 512
  have lv := filledL_len v 512
  have lz := zeros_len 512
  have fo : (filledL old 512)[i]? = some (fB old i) := by simp [filledL, List.getElem?_range hi]
  have fv : (filledL v 512)[i]? = some (fB v i) := by simp [filledL, List.getElem?_range hi]
  have fz := zeros_get 512 i hi
  generalize zeros 512 = Z at *
  generalize filledL old 512 = O at *
  generalize filledL v 512 = V at *
  constructor
  · rw [List.getElem?_append_left (by omega)]; exact fz
  · rw [List.getElem?_append_right (by omega), show 512 + i - Z.length = i from by omega]
    cases last with
    | false =>
      rw [if_neg (by decide)]
      by_cases hik : i < k
      · rw [List.getElem?_append_left (by rw [List.length_take]; omega), List.getElem?_take_of_lt hik, fv, if_pos (by simpa using hik)]
      · rw [List.getElem?_append_right (by rw [List.length_take]; omega), List.length_take, List.getElem?_drop, if_neg (by simpa using hik)]
        rw [show k + (i - min k V.length) = i from by omega]; exact fo
    | true =>
      rw [if_pos rfl]
      by_cases hik : 512 - k ≤ i
      · rw [List.getElem?_append_right (by rw [List.length_take]; omega), List.length_take, List.getElem?_drop, if_pos (by simpa using hik)]
        rw [show 512 - k + (i - min (512 - k) O.length) = i from by omega]; exact fv
      · rw [List.getElem?_append_left (by rw [List.length_take]; omega), List.getElem?_take_of_lt (by omega), fo, if_neg (by simpa using hik)]

theorem torn_n (old v : Int) : (tornSt old v).n * 512 = 1024 := by
  have : (tornSt old v).n = 2 := rfl
  rw [this]

/-- A sector's bytes, made, written into a store. -/
theorem wfill {g w : World} {L : List HP} (p b : Nat) (σ : St) (n : Nat) (x : Int) (hn : n < σ.n) (hp : σ.pend.length < 1000000000) (hl : -1000000000 < σ.left)
    (hlim : σ.limited = true → σ.left ≠ 0) (hS : SL g (row b 5 (u8s (filledL x 512)) :: StoreP p σ :: L) w) :
    Calls Try.prog 12 #[.pointer (some ⟨p, 0, none⟩), .int .i64 (n : Int), .slice (some ⟨b, 0, none⟩) 512 512] w fun e w' => e = .returned (.int .i64 0) ∧ SL g (StoreP p (σ.write n (filledL x 512)) :: L) w' := by
  refine (write_c p σ n _ (filledL x 512) hn (filledL_len _ _) hp hl hlim (hS.pull 1) (fun w' h => h.rd_row (.head _) (by rw [u8s_len, filledL_len]) (fun j u hu => by rw [Nat.zero_add]; exact hu))).mono ?_
  rintro e w2 ⟨rfl, hS2⟩
  exact ⟨rfl, (hS2.pull 1).tail⟩

theorem u8s_get {l : List Int} {i : Nat} {x : Int} (h : l[i]? = some x) : (u8s l)[i]? = some (.int .u8 x) := by simp [u8s, h]
theorem u8s_getl {l : List Int} {sp : List Value} {i : Nat} {x : Int} (h : l[i]? = some x) : (u8s l ++ sp)[i]? = some (.int .u8 x) := by
  rw [List.getElem?_append_left (by rw [u8s_len]; exact (List.getElem?_eq_some_iff.1 h).1)]; exact u8s_get h

set_option maxRecDepth 100000 in
set_option maxHeartbeats 8000000 in
theorem torn_walk : WalkSaid_BlockTorn := by
  intro old v k last w w0 w1 w2
  obtain ⟨o1, o2⟩ := wf64 w0
  obtain ⟨v1, v2⟩ := wf64 w1
  obtain ⟨k1, k2⟩ := wf64 w2
  clear w0 w1 w2
  have HS := Lib.hid (SL.start w)
  go_enter Try.func4, Try.ntmps4
  go_wp2_with fail
  refine (made_c 2 (by omega) (by omega) none none 0 0 [] [] 0 0 rfl rfl (by omega) (by omega) (by simp) (by simp) HS.out (fun _ _ => Rd.nil _ _ _) (fun _ _ => Rd.nil _ _ _)).mono ?_
  rintro e w1 ⟨p, rfl, hS⟩
  go_wp2_with fail
  refine (filled_c old 0 512 (by omega) (by omega) hS).mono ?_
  clear hS
  rintro e w2 ⟨bf, rfl, hS⟩
  go_wp2_with fail
  refine (wfill p bf (madeSt 2 [] []) 1 old (show 1 < 2 by omega) (show 0 < 1000000000 by omega) (show (-1000000000 : Int) < 0 by omega) (fun h => by cases h) hS).mono ?_
  clear hS
  rintro e w3 ⟨rfl, hS⟩
  go_wp2_with fail
  refine (sync_c p _ hS).mono ?_
  clear hS
  rintro e w4 ⟨rfl, hS⟩
  go_wp2_with fail
  refine (filled_c v 0 512 (by omega) (by omega) hS).mono ?_
  clear hS
  rintro e w5 ⟨bg, rfl, hS⟩
  go_wp2_with fail
  refine (wfill p bg ((madeSt 2 [] []).write 1 (filledL old 512)).sync 1 v (show 1 < 2 by omega) (show 0 < 1000000000 by omega) (show (-1000000000 : Int) < -1 by omega) (fun h => by cases h) hS).mono ?_
  clear hS
  rintro e w6 ⟨rfl, hS⟩
  have hS : SL w (StoreP p (tornSt old v) :: [Sl.old w]) w6 := hS
  go_wp2_with fail
  refine (pick_c k 513 w6 k1 k2 (by omega) (by omega)).mono ?_
  rintro e w' ⟨rfl, rfl⟩
  obtain ⟨m, hm, hmk⟩ : ∃ m, m = pkN k 513 ∧ m ≤ 512 := ⟨_, rfl, by have := pkN_lt k 513 (by omega); omega⟩
  rw [← hm]
  clear hm k1 k2
  obtain ⟨P, q, hP, hq, hq2, hl⟩ : ∃ P q : Int, P = (if last then (m : Int) + 513 else (m : Int)) ∧ (if P < 0 then -(P + 1) else P) = q ∧ q % 513 = (m : Int) ∧ (q / 513 % 2 == 1) = last := by
    refine ⟨_, _, rfl, rfl, ?_⟩
    cases last with
    | false =>
      rw [if_neg (by decide : ¬ (false = true)), if_neg (by omega)]
      exact ⟨by omega, by rw [beq_eq_false_iff_ne]; omega⟩
    | true =>
      rw [if_pos rfl, if_neg (by omega)]
      exact ⟨by omega, by rw [beq_iff_eq]; omega⟩
  have HAT := Lib.hid (fun i hi => torn_at (old := old) (v := v) hq hq2 hmk last hl i hi)
  have HP := Lib.hid hP
  have hPb : 0 ≤ P ∧ P ≤ 2000 := by rw [hP]; split <;> omega
  clear hP hq hq2 hl
  have HCR := Lib.hid (show ∀ (b : Nat) (g' : World) (w' : World), SL w (row b 3 [.int .i64 P, .int .i64 4] :: StoreP p (tornSt old v) :: [Sl.old w]) w' →
      Calls Try.prog 16 #[.pointer (some ⟨p, 0, none⟩), .slice (some ⟨b, 0, none⟩) 2 2] w' fun e w'' => ∃ bl, e = .returned (.slice (some ⟨bl, 0, none⟩) 1024 1024) ∧ ∃ sp, SL w (row bl 5 (u8s ((tornSt old v).crash [P, 4]) ++ sp) :: StoreP p (tornSt old v) :: row b 3 [.int .i64 P, .int .i64 4] :: [Sl.old w]) w'' from
    fun b g' w' h => by
      have h2 := crash_c p (tornSt old v) (some ⟨b, 0, none⟩) 2 [P, 4] (by simp) (by intro x hx; simp at hx; omega) (h.pull 1) (fun w'' h' => h'.rd_row (.head _) rfl (fun j u hu => by rw [Nat.zero_add]; exact hu))
      have e : (tornSt old v).n * 512 = 1024 := torn_n old v
      rw [e] at h2
      exact h2)
  cases last with
  | false =>
    obtain rfl : P = (m : Int) := by have := HP.out; simpa using this
    clear HP
    go_wp2_with fail
    refine (HCR.out w6.heap.size w6 _ (hS.alloc _)).mono ?_
    clear hS HCR
    rintro e w7 ⟨bl, rfl, sp, hS⟩
    go_wp2_with fail
    refine (filled_c old 0 512 (by omega) (by omega) hS).mono ?_
    clear hS
    rintro e w8 ⟨ba, rfl, hS⟩
    go_wp2_with fail
    refine (filled_c v 0 512 (by omega) (by omega) hS).mono ?_
    clear hS
    rintro e w9 ⟨bb, rfl, hS⟩
    have HS9 := Lib.hid hS
    clear hS
    go_wp2
    go_loop [15] (fun i => ∃ k : Nat, k ≤ 512 ∧ i = .int .i64 k) (fun i => 512 - (intOf i).toNat)
    case atStart => exact ⟨0, Nat.zero_le _, rfl⟩
    case round =>
      obtain ⟨i, hi, rfl⟩ := hrel
      by_cases hlt : i < 512
      · obtain ⟨c1, c2⟩ := HAT.out i hlt
        have c3 : (filledL old 512)[i]? = some (fB old i) := by simp [filledL, List.getElem?_range hlt]
        have c4 : (filledL v 512)[i]? = some (fB v i) := by simp [filledL, List.getElem?_range hlt]
        have f1 := HS9.out.cell (b := ba) (.tail _ (.head _)) i
        have f2 := HS9.out.cell (b := bb) (.head _) i
        have f3 := HS9.out.cell (b := bl) (.tail _ (.tail _ (.head _))) i
        have f4 := HS9.out.cell (b := bl) (.tail _ (.tail _ (.head _))) (512 + i)
        rw [u8s_get c3] at f1
        rw [u8s_get c4] at f2
        rw [u8s_getl c1] at f3
        rw [u8s_getl c2] at f4
        clear c1 c2 c3 c4
        generalize fB old i = x at *
        generalize fB v i = y at *
        by_cases hc : i < m
        · rw [if_pos (by simpa using hc)] at f4
          have g1 : (x != x) = false := by simp
          have g2 : (y != y) = false := by simp
          go_wp2
          go_round
          case rel => exact ⟨i + 1, by omega, by go_num⟩
          case measure => simp [intOf]; omega
        · rw [if_neg (by simpa using hc)] at f4
          have g1 : (x != x) = false := by simp
          have g2 : (y != y) = false := by simp
          go_wp2
          go_round
          case rel => exact ⟨i + 1, by omega, by go_num⟩
          case measure => simp [intOf]; omega
      · go_wp2
        go_ret
        exact ⟨rfl, HS9.out.below (.tail _ (.tail _ (.tail _ (.tail _ (.tail _ (.head _))))))⟩
  | true =>
    obtain rfl : P = (m : Int) + 513 := by have := HP.out; simpa using this
    clear HP
    go_wp2_with fail
    refine (HCR.out w6.heap.size w6 _ (hS.alloc _)).mono ?_
    clear hS HCR
    rintro e w7 ⟨bl, rfl, sp, hS⟩
    go_wp2_with fail
    refine (filled_c old 0 512 (by omega) (by omega) hS).mono ?_
    clear hS
    rintro e w8 ⟨ba, rfl, hS⟩
    go_wp2_with fail
    refine (filled_c v 0 512 (by omega) (by omega) hS).mono ?_
    clear hS
    rintro e w9 ⟨bb, rfl, hS⟩
    have HS9 := Lib.hid hS
    clear hS
    go_wp2
    go_loop [15] (fun i => ∃ k : Nat, k ≤ 512 ∧ i = .int .i64 k) (fun i => 512 - (intOf i).toNat)
    case atStart => exact ⟨0, Nat.zero_le _, rfl⟩
    case round =>
      obtain ⟨i, hi, rfl⟩ := hrel
      by_cases hlt : i < 512
      · obtain ⟨c1, c2⟩ := HAT.out i hlt
        have c3 : (filledL old 512)[i]? = some (fB old i) := by simp [filledL, List.getElem?_range hlt]
        have c4 : (filledL v 512)[i]? = some (fB v i) := by simp [filledL, List.getElem?_range hlt]
        have f1 := HS9.out.cell (b := ba) (.tail _ (.head _)) i
        have f2 := HS9.out.cell (b := bb) (.head _) i
        have f3 := HS9.out.cell (b := bl) (.tail _ (.tail _ (.head _))) i
        have f4 := HS9.out.cell (b := bl) (.tail _ (.tail _ (.head _))) (512 + i)
        rw [u8s_get c3] at f1
        rw [u8s_get c4] at f2
        rw [u8s_getl c1] at f3
        rw [u8s_getl c2] at f4
        clear c1 c2 c3 c4
        generalize fB old i = x at *
        generalize fB v i = y at *
        by_cases hc : 512 - m ≤ i
        · rw [if_pos (by simpa using hc)] at f4
          have g1 : (x != x) = false := by simp
          have g2 : (y != y) = false := by simp
          go_wp2
          go_round
          case rel => exact ⟨i + 1, by omega, by go_num⟩
          case measure => simp [intOf]; omega
        · rw [if_neg (by simpa using hc)] at f4
          have g1 : (x != x) = false := by simp
          have g2 : (y != y) = false := by simp
          go_wp2
          go_round
          case rel => exact ⟨i + 1, by omega, by go_num⟩
          case measure => simp [intOf]; omega
      · go_wp2
        go_ret
        exact ⟨rfl, HS9.out.below (.tail _ (.tail _ (.tail _ (.tail _ (.tail _ (.head _))))))⟩

/-- The statement. -/
theorem blockTorn_holds : Rows.BlockTornSaid := over_BlockTorn torn_walk

end Go.Proofs.Ytinmonlhfnaiiaa
