/- The laws' own helpers: pick, filled, few, same; Of (contracts). -/
import Derived.Test.YtinmonlhfnaiiaaBlk4
namespace Go.Proofs.Ytinmonlhfnaiiaa
open Go.Sl Go.RowKit
set_option linter.unusedVariables false
set_option linter.unusedSimpArgs false

theorem El24 : El Try.prog 24 (.slice none 0 0) 1 24 := El.mk' (by kernel_rfl) rfl

/-- 'pick': which of n things a raw number speaks of. -/
def pkN (c : Int) (n : Nat) : Nat := ((if c < 0 then -(c + 1) else c) % (n : Int)).toNat

theorem pkN_lt (c : Int) (n : Nat) (h : 1 ≤ n) : pkN c n < n := by
  unfold pkN
  generalize (if c < 0 then -(c + 1) else c) = q
  have := Int.emod_lt_of_pos q (show (0 : Int) < n by omega)
  have := Int.emod_nonneg q (show (n : Int) ≠ 0 by omega)
  omega

theorem pick_c (c : Int) (n : Nat) (w : World) (h0 : -9223372036854775808 ≤ c) (h1 : c ≤ 9223372036854775807) (hn : 1 ≤ n) (hn2 : n ≤ 9223372036854775807) :
    Calls Try.prog 15 #[.int .i64 c, .int .i64 (n : Int)] w fun e w' => e = .returned (.int .i64 (pkN c n : Int)) ∧ w = w' := by
  by_cases hc : c < 0
  · obtain ⟨q, hq, hq0⟩ : ∃ q, -(c + 1) = q ∧ 0 ≤ q := ⟨_, rfl, by omega⟩
    have Hv := Lib.hid (show q % (n : Int) = (pkN c n : Int) by
      unfold pkN; rw [if_pos hc, hq]; have := Int.emod_nonneg q (show (n : Int) ≠ 0 by omega); omega)
    go_enter Try.func15, Try.ntmps15
    go_wp2
    go_ret
    exact ⟨ret_int Hv.out, rfl⟩
  · have Hv := Lib.hid (show c % (n : Int) = (pkN c n : Int) by
      unfold pkN; rw [if_neg hc]; have := Int.emod_nonneg c (show (n : Int) ≠ 0 by omega); omega)
    have hc' : 0 ≤ c := by omega
    go_enter Try.func15, Try.ntmps15
    go_wp2
    go_ret
    exact ⟨ret_int Hv.out, rfl⟩

def fB (v : Int) (i : Nat) : Int := (v + i * (v.tmod 7 + 1)) % 256
def filledL (v : Int) (n : Nat) : List Int := (List.range n).map (fB v)
theorem filledL_len (v : Int) (n : Nat) : (filledL v n).length = n := by simp [filledL]

theorem fill_step (v : Int) (n i : Nat) (h : i < n) :
    (u8s (filledL v i) ++ List.replicate (n - i) (Value.int .u8 0)).set i (.int .u8 (fB v i)) = u8s (filledL v (i + 1)) ++ List.replicate (n - (i + 1)) (Value.int .u8 0) := by
  have hl : (u8s (filledL v i)).length = i := by simp [u8s, filledL]
  rw [List.set_append_right _ _ (by omega), hl, Nat.sub_self]
  obtain ⟨k, hk⟩ : ∃ k, n - i = k + 1 := ⟨n - i - 1, by omega⟩
  have hk2 : n - (i + 1) = k := by omega
  rw [hk, hk2, List.replicate_succ, List.set_cons_zero]
  simp [u8s, filledL, List.range_succ]

theorem fb_eq (v : Int) (i : Nat) : wrap64 (v + wrap64 (i * (v.tmod 7 + 1))) % 256 = fB v i := by
  unfold fB wrap64
  generalize (i : Int) * (v.tmod 7 + 1) = x
  omega

theorem tmod7 (v : Int) : -6 ≤ v.tmod 7 ∧ v.tmod 7 ≤ 6 := by
  have h1 := Int.tmod_lt_of_pos v (show (0:Int) < 7 by omega)
  have h2 := Int.lt_tmod_of_pos v (show (0:Int) < 7 by omega)
  omega

set_option maxHeartbeats 400000 in
theorem filled_c {g w : World} {L : List HP} (v more : Int) (n : Nat) (hm : 512 + more = n) (hn : n ≤ 100000) (hS : SL g L w) :
    Calls Try.prog 13 #[.int .i64 v, .int .i64 more] w fun e w' => ∃ b, e = .returned (.slice (some ⟨b, 0, none⟩) n n) ∧ SL g (row b 5 (u8s (filledL v n)) :: L) w' := by
  obtain ⟨h70, h71⟩ := tmod7 v
  have Hm := Lib.hid hm; have b0 : 0 ≤ 512 + more := by omega
  have b1 : 512 + more ≤ 100000 := by omega
  clear hm
  go_enter Try.func13, Try.ntmps13
  go_wp2_with ((with_reducible show wpList _ _ _ (Oper.mk _ (Op.makeSlice _ _ _) _ _ _ _ :: _) _ _); refine wpList_plain rfl (fun K hK => ?_); refine w_make El5 Try.underlying31 hS rfl rfl (b0) (Int.le_refl _) (by omega) (by unfold maxLen; omega) ?_; clear hS; intro b w hS l' hl; simp only [List.set_cons_succ, List.set_cons_zero] at hl; subst hl; refine hK _ _ ?_; clear hK K)
  have e1 : (512 + more).toNat = n := by rw [Hm.out]; rfl
  have e2 : (madeCells (Value.int IntKind.u8 0).cells (n * 1)).toList = u8s (filledL v 0) ++ List.replicate (n - 0) (Value.int .u8 0) := by
    rw [Nat.mul_one]; show (madeCells #[_] n).toList = _; rw [toList_madeCells_one]; simp [u8s, filledL]
  rw [e1, e2] at hS
  rw [e1]
  clear e1 e2
  go_wp2
  go_loopw [6] (fun i wr => ∃ k : Nat, k ≤ n ∧ i = .int .i64 k ∧ SL g (row b 5 (u8s (filledL v k) ++ List.replicate (n - k) (Value.int .u8 0)) :: L) wr) (fun i _ => n - (intOf i).toNat)
  case atStart => exact ⟨0, Nat.zero_le _, rfl, hS⟩
  case round =>
    clear hS
    obtain ⟨k, hk, rfl, hS⟩ := hrel
    by_cases hlt : k < n
    · have hlen := Lib.hid (show k < (u8s (filledL v k) ++ List.replicate (n - k) (Value.int .u8 0)).length by simp [u8s, filledL]; omega)
      go_wp2_with ((with_reducible show wpList _ _ _ (Oper.mk _ (Op.store _ _ _) _ _ _ _ :: _) _ _); refine wpList_plain rfl (fun K hK => ?_); refine w_store hS 0 rfl rfl rfl El5 rfl (hlen.out) ?_; clear hS; intro w hS; try simp only [ev, nth, Option.getD_some, Option.getD_none] at hS; refine hK _ _ ?_; clear hK K)
      rw [fb_eq, fill_step v n k hlt] at hS
      go_roundw
      case rel => exact ⟨k + 1, by omega, by go_num, hS⟩
      case measure => simp [intOf]; omega
    · go_wp2
      obtain rfl : k = n := by omega
      go_ret
      exact ⟨b, rfl, by simpa using hS⟩

theorem few_c (a : Option Addr) (len cap n : Nat) (w : World) (h1 : len ≤ cap) (h2 : cap ≤ maxLen) (h3 : n ≤ 1000) :
    Calls Try.prog 19 #[.slice a len cap, .int .i64 (n : Int)] w fun e w' => e = .returned (.slice a (min len n) cap) ∧ w = w' := by
  unfold maxLen at h2
  by_cases h : n < len
  · have Hm := Lib.hid (show n = min len n by omega)
    go_enter Try.func19, Try.ntmps19
    go_wp2
    go_ret
    exact ⟨congrArg (fun z => Ending.returned (.slice a z cap)) Hm.out, rfl⟩
  · have Hm := Lib.hid (show len = min len n by omega)
    go_enter Try.func19, Try.ntmps19
    go_wp2
    go_ret
    exact ⟨congrArg (fun z => Ending.returned (.slice a z cap)) Hm.out, rfl⟩

theorem rd_cell {w : World} {a : Addr} {n c : Nat} {xs : List Int} (h : Rd w 1 (.slice (some a) n c) n (u8s xs)) (k : Nat) (hk : k < xs.length) : w.cell? (a.add k) = some (.int .u8 xs[k]) := by
  obtain ⟨a', c', e, _, hc⟩ := h
  cases e
  obtain ⟨ad, h1, h2⟩ := hc k (.int .u8 xs[k]) (by simp [u8s, hk])
  cases h1; exact h2

theorem rd_celli {w : World} {a : Addr} {n c : Nat} {xs : List Int} (h : Rd w 1 (.slice (some a) n c) n (i64s xs)) (k : Nat) (hk : k < xs.length) : w.cell? (a.add k) = some (.int .i64 xs[k]) := by
  obtain ⟨a', c', e, _, hc⟩ := h
  cases e
  obtain ⟨ad, h1, h2⟩ := hc k (.int .i64 xs[k]) (by simp [i64s, hk])
  cases h1; exact h2

theorem rd_base {w : World} {a : Option Addr} {n c : Nat} {vs : List Value} (h : Rd w 1 (.slice a n c) n vs) (hn : 0 < n) : ∃ ad, a = some ad := by
  obtain ⟨a', c', e, hl, hc⟩ := h
  cases e
  obtain ⟨ad, h1, _⟩ := hc 0 (vs[0]'(by omega)) (List.getElem?_eq_getElem (by omega))
  exact ⟨ad, h1⟩

set_option maxHeartbeats 800000 in
theorem same_c (a b : Option Addr) (c1 c2 : Nat) (xs ys : List Int) (n m : Nat) (hn : n = xs.length) (hm : m = ys.length) (hb : n ≤ 100000000) (hb2 : m ≤ 100000000) (w : World) (h1 : Rd w 1 (.slice a n c1) n (u8s xs)) (h2 : Rd w 1 (.slice b m c2) m (u8s ys)) :
    Calls Try.prog 18 #[.slice a n c1, .slice b m c2] w fun e w' => e = .returned (.bool (decide (xs = ys))) ∧ ∃ n, w' = w.drewN n := by
  by_cases hl : n = m
  · subst hl
    have Hn := Lib.hid hn; have Hm := Lib.hid hm
    clear hn hm
    have H1 := Lib.hid h1; have H2 := Lib.hid h2
    clear h1 h2
    go_enter Try.func18, Try.ntmps18
    go_wp2
    go_loopw [5] (fun i wr => ∃ k nd : Nat, k ≤ n ∧ i = .int .i64 k ∧ wr = w.drewN nd ∧ xs.take k = ys.take k) (fun i _ => n - (intOf i).toNat)
    case atStart => exact ⟨0, 0, Nat.zero_le _, rfl, rfl, by simp⟩
    case round =>
      obtain ⟨k, nd, hk, rfl, rfl, ht⟩ := hrel
      have Ht := Lib.hid ht; clear ht
      by_cases hlt : k < n
      · obtain ⟨ad, rfl⟩ := rd_base H1.out (by omega)
        obtain ⟨bd, rfl⟩ := rd_base H2.out (by omega)
        have f1 := rd_cell H1.out k (by have := Hn.out; omega)
        have f2 := rd_cell H2.out k (by have := Hm.out; omega)
        obtain ⟨x, hx⟩ : ∃ x, xs[k]'(by have := Hn.out; omega) = x := ⟨_, rfl⟩
        obtain ⟨y, hy⟩ : ∃ y, ys[k]'(by have := Hm.out; omega) = y := ⟨_, rfl⟩
        rw [hx] at f1; rw [hy] at f2
        have Hx := Lib.hid (show xs[k]? = some x by rw [List.getElem?_eq_getElem (by have := Hn.out; omega), hx])
        have Hy := Lib.hid (show ys[k]? = some y by rw [List.getElem?_eq_getElem (by have := Hm.out; omega), hy])
        clear hx hy
        by_cases hxy : x = y
        · subst hxy
          have hne : (x != x) = false := by simp
          go_wp2
          go_quiet (fail)
          go_wp2
          go_roundw
          case rel => exact ⟨k + 1, _, by omega, by go_num, rfl, by rw [List.take_add_one, List.take_add_one, Hx.out, Hy.out, Ht.out]⟩
          case measure => simp [intOf]; omega
        · have hne : (x != y) = true := by simpa using hxy
          go_wp2
          go_quiet (fail)
          go_wp2
          go_ret
          refine ⟨?_, _, World.drewN_drewN _ _ _⟩
          have hd : xs ≠ ys := fun e => hxy (by have h := Hx.out; rw [e, Hy.out] at h; exact (Option.some.inj h).symm)
          exact congrArg (fun z => Ending.returned (.bool z)) (decide_eq_false hd).symm
      · go_wp2
        go_ret
        refine ⟨?_, _, rfl⟩
        have hd : xs = ys := by
          have := Ht.out
          rwa [List.take_of_length_le (by have := Hn.out; omega), List.take_of_length_le (by have := Hm.out; omega)] at this
        exact congrArg (fun z => Ending.returned (.bool z)) (decide_eq_true hd).symm
  · have hne : ((n : Int) != (m : Int)) = true := by rw [bne_iff_ne]; omega
    have Hd := Lib.hid (show xs ≠ ys from fun e => hl (by rw [hn, hm, e]))
    clear hn hm h1 h2 hl
    go_enter Try.func18, Try.ntmps18
    go_wp2
    go_ret
    exact ⟨congrArg (fun z => Ending.returned (.bool z)) (decide_eq_false Hd.out).symm, 0, rfl⟩

/-- A store out of its parts, nothing pending. -/
theorem mk_store {g w : World} {L : List HP} {p b cap N : Nat} {sp : List Value} {l : List Int} (hS : SL g (row p 64 [.slice (some ⟨b, 0, none⟩) N cap, .slice none 0 0, .bool false, .int .i64 0] :: row b 5 (u8s l ++ sp) :: L) w)
    (h1 : N ≤ cap) (h2 : cap ≤ maxLen) (σ : St) (hw : σ.Wf) (e1 : σ.safe = l) (e2 : σ.pend = []) (e3 : σ.limited = false) (e4 : σ.left = 0) (hl : l.length = N) (hsp : sp.length = (cap - N) * 1) : SL g (StoreP p σ :: L) w := by
  subst e1
  subst hl
  have h3 := SL.own_some (n := σ.safe.length) (cap := cap) (sz := 1) (hS.pull 1) (by rw [u8s_len]; omega) h1 h2 hsp
  have h4 : SL g (PendP (.slice none 0 0) [] [] :: byS (.slice (some ⟨b, 0, none⟩) σ.safe.length cap) σ.safe :: row p 64 [.slice (some ⟨b, 0, none⟩) σ.safe.length cap, .slice none 0 0, .bool false, .int .i64 0] :: L) w := SL.flat.2 (h3.own_nil _ _)
  have h5 := (h4.pull 1).pull 2
  refine st_shut (sv := .slice (some ⟨b, 0, none⟩) σ.safe.length cap) (pv := .slice none 0 0) (ds := []) hw (by rw [e2]; rfl) (fun _ => e2) ?_
  rw [e2, e3, e4]
  exact h5

def ofSt (k : Nat) (l : List Int) : St := { n := k, safe := l, pend := [], limited := false, left := 0 }

theorem of_c {g w : World} {L : List HP} (a : Option Addr) (len c k : Nat) (l : List Int) (hl : l.length = len) (hk : len = k * 512) (h1 : 1 ≤ k) (h2 : k ≤ 4096) (hS : SL g L w) (hR : ∀ w', SL g L w' → Rd w' 1 (.slice a len c) len (u8s l)) :
    Calls Try.prog 23 #[.slice a len c] w fun e w' => ∃ p, e = .returned (.tuple #[.pointer (some ⟨p, 0, none⟩), .int .i64 0]) ∧ SL g (StoreP p (ofSt k l) :: L) w' := by
  have Hl := Lib.hid hl; have Hk := Lib.hid hk
  have hlb : len ≤ 2097152 := by omega
  have hl0 : 1 ≤ len := by omega
  have hz : ((len : Int) == 0) = false := by simp; omega
  have hmod : (len : Int) % 512 = 0 := by omega
  have HS := Lib.hid hS; have HR := Lib.hid hR
  clear hl hk hS hR
  go_enter Try.func23, Try.ntmps23
  go_wp2_with (first | (go_at_call 29; refine (clone_c _ len (u8s l) HS.out HR.out (u8s_one _) (by omega)).mono ?_; rintro e w ⟨s1, rfl, hS, hs1⟩; (obtain ⟨bo, co, spo, rfl, ho1, ho2, ho3, ho4, hS⟩ := own_row hS (by omega)); (have Ho3 := Lib.hid ho3); clear hs1 ho3 ho4) | ((with_reducible show wpList _ _ _ (Oper.mk _ (Op.box _ _) _ _ _ _ :: _) _ _); refine wpList_plain rfl (fun K hK => ?_); refine w_box hS rfl rfl ?_; clear hS; intro p w hS l' hl; simp only [List.set_cons_succ, List.set_cons_zero] at hl; subst hl; try simp only [ev, nth, Option.getD_some, Option.getD_none] at hS; refine hK _ _ ?_; clear hK K))
  go_ret2
  refine ⟨p, rfl, mk_store hS ho1 ho2 (ofSt k l) ⟨h1, h2, by have := Hl.out; have := Hk.out; simp [ofSt]; omega, by simp [ofSt], by simp [ofSt], by simp [ofSt]⟩ rfl rfl rfl rfl Hl.out Ho3.out⟩

theorem ofno_c (a : Option Addr) (len c : Nat) (w : World) (h : len = 0 ∨ len % 512 ≠ 0 ∨ 2097152 < len) (hb : len ≤ 9223372036854775807) :
    Calls Try.prog 23 #[.slice a len c] w fun e w' => e = .returned (.tuple #[.pointer none, .int .i64 1]) ∧ w = w' := by
  by_cases h0 : len = 0
  · subst h0; clear h
    go_enter Try.func23, Try.ntmps23
    go_wp2
    go_ret2
    exact ⟨rfl, rfl⟩
  · have hz : ((len : Int) == 0) = false := by simp; omega
    by_cases hmod : len % 512 = 0
    · have hm : (len : Int) % 512 = 0 := by omega
      have hgt : 2097152 < len := by omega
      clear h
      go_enter Try.func23, Try.ntmps23
      go_wp2
      go_ret2
      exact ⟨rfl, rfl⟩
    · have hm : ((len : Int) % 512 != 0) = true := by rw [bne_iff_ne]; omega
      clear h
      go_enter Try.func23, Try.ntmps23
      go_wp2
      go_ret2
      exact ⟨rfl, rfl⟩

end Go.Proofs.Ytinmonlhfnaiiaa
