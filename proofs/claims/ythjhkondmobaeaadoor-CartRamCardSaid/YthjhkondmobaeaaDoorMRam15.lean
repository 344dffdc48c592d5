import Derived.Test.YthjhkondmobaeaaDoorMRam14
/- cart: Check. -/
namespace Go.Proofs.YthjhkondmobaeaaDoor
open Go.Sl Go.Xg
set_option linter.unusedVariables false
set_option linter.unusedSimpArgs false
set_option maxHeartbeats 4000000
set_option maxRecDepth 100000

/-- What a type of cartridge may have: mapper, banks, codes of RAM, a battery. -/
structure Kd where
  mp : Int
  bk : Int
  cl : List Int
  bt : Bool
  deriving Inhabited
def kdL : List (Int × Kd) := [(0, ⟨0, 2, [0], false⟩), (8, ⟨0, 2, [2], false⟩), (9, ⟨0, 2, [2], true⟩), (1, ⟨1, 128, [0], false⟩), (2, ⟨1, 128, [2, 3], false⟩), (3, ⟨1, 128, [2, 3], true⟩), (5, ⟨2, 16, [0], false⟩), (6, ⟨2, 16, [0], true⟩), (17, ⟨3, 128, [0], false⟩), (18, ⟨3, 128, [2, 3], false⟩), (19, ⟨3, 128, [2, 3], true⟩), (25, ⟨5, 128, [0], false⟩), (26, ⟨5, 128, [2, 3, 4, 5], false⟩), (27, ⟨5, 128, [2, 3, 4, 5], true⟩)]
/-- .. of a type; none: there is none. -/
def kdOf (t : Int) : Option Kd := (kdL.find? fun x => x.1 == t).map (·.2)
/-- All of the codes, one part. -/
def typS (A : Nat → Nat) : HP := seps (typR A)
theorem types_s : Does Tryd.prog 20 [] [] (RetE (fun x : Nat × (Nat → Nat) => True) (fun x => .map (some x.1)) (fun x => [mp x.1 .u8 (typL x.2), typS x.2])) :=
  does_conv (K := []) types_d (fun g w F hS => hS) fun x _ g w F hS => ⟨x, trivial, rfl, by
    have h1 : SL g (typR x.2 ++ (mp x.1 .u8 (typL x.2) :: F)) w := sl_keep (L := [mp x.1 .u8 (typL x.2), row (x.2 0) 3 [.int .i64 0], row (x.2 1) 3 [.int .i64 2], row (x.2 2) 3 [.int .i64 2], row (x.2 3) 3 [.int .i64 0], row (x.2 4) 3 [.int .i64 2, .int .i64 3], row (x.2 5) 3 [.int .i64 2, .int .i64 3], row (x.2 6) 3 [.int .i64 0], row (x.2 7) 3 [.int .i64 0], row (x.2 8) 3 [.int .i64 0], row (x.2 9) 3 [.int .i64 2, .int .i64 3], row (x.2 10) 3 [.int .i64 2, .int .i64 3], row (x.2 11) 3 [.int .i64 0], row (x.2 12) 3 [.int .i64 2, .int .i64 3, .int .i64 4, .int .i64 5], row (x.2 13) 3 [.int .i64 2, .int .i64 3, .int .i64 4, .int .i64 5]]) [1, 2, 3, 4, 5, 6, 7, 8, 9, 10, 11, 12, 13, 14, 0] rfl hS
    have h2 : SL g (typS x.2 :: mp x.1 .u8 (typL x.2) :: F) w := SL.flat.2 h1
    exact sl_keep (L := [typS x.2, mp x.1 .u8 (typL x.2)]) [1, 0] rfl h2⟩
/-- A row of codes within the part. -/
theorem reads_typ {A : Nat → Nat} (i : Nat) {b : Nat} {cs : List Int} (h : nth (typR A) i = some (row b 3 (cs.map (Value.int .i64)))) : Reads (typS A) 1 (.slice (some ⟨b, 0, none⟩) cs.length cs.length) cs.length (cs.map (Value.int .i64)) := by
  refine ⟨fun g F w hS => ?_⟩
  have h1 : SL g (typR A ++ F) w := SL.flat.1 hS
  refine ⟨_, _, rfl, by simp, fun j u hu => ⟨⟨b, 0, none⟩, rfl, ?_⟩⟩
  have := SL.cell h1 (sl_nth (w := w) h) j
  rw [hu] at this
  rw [show (⟨b, 0, none⟩ : Addr).add j = ⟨b, j, none⟩ from by unfold Addr.add; split <;> simp_all]
  exact this
theorem look_typ (A : Nat → Nat) (t : Int) : ∃ (k : Kd) (a : Option Addr), (Xg.look t (typL A)).getD (.agg #[.int .i64 0, .int .i64 0, .slice none 0 0, .bool false]) = .agg #[.int .i64 k.mp, .int .i64 k.bk, .slice a k.cl.length k.cl.length, .bool k.bt] ∧ (Xg.look t (typL A)).isSome = (kdOf t).isSome ∧ (∀ k', kdOf t = some k' → k' = k) ∧ Reads (typS A) 1 (.slice a k.cl.length k.cl.length) k.cl.length (k.cl.map (Value.int .i64)) ∧ 0 ≤ k.mp ∧ k.mp ≤ 5 ∧ 0 ≤ k.bk ∧ k.bk ≤ 128 ∧ k.cl.length ≤ 4 := by
  by_cases h : t = 0 ∨ t = 8 ∨ t = 9 ∨ t = 1 ∨ t = 2 ∨ t = 3 ∨ t = 5 ∨ t = 6 ∨ t = 17 ∨ t = 18 ∨ t = 19 ∨ t = 25 ∨ t = 26 ∨ t = 27
  · rcases h with e | e | e | e | e | e | e | e | e | e | e | e | e | e <;> subst e
    · exact ⟨⟨0, 2, [0], false⟩, some ⟨A 0, 0, none⟩, rfl, rfl, fun k' e => by cases e; rfl, reads_typ 0 rfl, by decide, by decide, by decide, by decide, by decide⟩
    · exact ⟨⟨0, 2, [2], false⟩, some ⟨A 1, 0, none⟩, rfl, rfl, fun k' e => by cases e; rfl, reads_typ 1 rfl, by decide, by decide, by decide, by decide, by decide⟩
    · exact ⟨⟨0, 2, [2], true⟩, some ⟨A 2, 0, none⟩, rfl, rfl, fun k' e => by cases e; rfl, reads_typ 2 rfl, by decide, by decide, by decide, by decide, by decide⟩
    · exact ⟨⟨1, 128, [0], false⟩, some ⟨A 3, 0, none⟩, rfl, rfl, fun k' e => by cases e; rfl, reads_typ 3 rfl, by decide, by decide, by decide, by decide, by decide⟩
    · exact ⟨⟨1, 128, [2, 3], false⟩, some ⟨A 4, 0, none⟩, rfl, rfl, fun k' e => by cases e; rfl, reads_typ 4 rfl, by decide, by decide, by decide, by decide, by decide⟩
    · exact ⟨⟨1, 128, [2, 3], true⟩, some ⟨A 5, 0, none⟩, rfl, rfl, fun k' e => by cases e; rfl, reads_typ 5 rfl, by decide, by decide, by decide, by decide, by decide⟩
    · exact ⟨⟨2, 16, [0], false⟩, some ⟨A 6, 0, none⟩, rfl, rfl, fun k' e => by cases e; rfl, reads_typ 6 rfl, by decide, by decide, by decide, by decide, by decide⟩
    · exact ⟨⟨2, 16, [0], true⟩, some ⟨A 7, 0, none⟩, rfl, rfl, fun k' e => by cases e; rfl, reads_typ 7 rfl, by decide, by decide, by decide, by decide, by decide⟩
    · exact ⟨⟨3, 128, [0], false⟩, some ⟨A 8, 0, none⟩, rfl, rfl, fun k' e => by cases e; rfl, reads_typ 8 rfl, by decide, by decide, by decide, by decide, by decide⟩
    · exact ⟨⟨3, 128, [2, 3], false⟩, some ⟨A 9, 0, none⟩, rfl, rfl, fun k' e => by cases e; rfl, reads_typ 9 rfl, by decide, by decide, by decide, by decide, by decide⟩
    · exact ⟨⟨3, 128, [2, 3], true⟩, some ⟨A 10, 0, none⟩, rfl, rfl, fun k' e => by cases e; rfl, reads_typ 10 rfl, by decide, by decide, by decide, by decide, by decide⟩
    · exact ⟨⟨5, 128, [0], false⟩, some ⟨A 11, 0, none⟩, rfl, rfl, fun k' e => by cases e; rfl, reads_typ 11 rfl, by decide, by decide, by decide, by decide, by decide⟩
    · exact ⟨⟨5, 128, [2, 3, 4, 5], false⟩, some ⟨A 12, 0, none⟩, rfl, rfl, fun k' e => by cases e; rfl, reads_typ 12 rfl, by decide, by decide, by decide, by decide, by decide⟩
    · exact ⟨⟨5, 128, [2, 3, 4, 5], true⟩, some ⟨A 13, 0, none⟩, rfl, rfl, fun k' e => by cases e; rfl, reads_typ 13 rfl, by decide, by decide, by decide, by decide, by decide⟩
  · have hl : Xg.look t (typL A) = none := by
      simp only [typL, Xg.look]
      repeat (rw [if_neg (by omega)])
    have hk : kdOf t = none := by
      simp only [kdOf, kdL, Option.map_eq_none_iff, List.find?_eq_none, List.mem_cons, List.not_mem_nil, or_false]
      rintro x (rfl | rfl | rfl | rfl | rfl | rfl | rfl | rfl | rfl | rfl | rfl | rfl | rfl | rfl) <;> simp <;> omega
    have h3 : ∀ k', kdOf t = some k' → k' = ⟨0, 0, [], false⟩ := fun k' e => by rw [hk] at e; cases e
    have h4 : Reads (typS A) 1 (.slice none 0 0) 0 ([].map (Value.int .i64)) := ⟨fun g F w hS => ⟨_, _, rfl, rfl, fun j u hu => by cases hu⟩⟩
    refine ⟨⟨0, 0, [], false⟩, none, by rw [hl]; rfl, by rw [hl, hk]; rfl, h3, h4, by decide, by decide, by decide, by decide, by decide⟩
/-- What is looked up. -/
noncomputable def lkK (A : Nat → Nat) (t : Int) : Kd := (look_typ A t).choose
noncomputable def lkA (A : Nat → Nat) (t : Int) : Option Addr := (look_typ A t).choose_spec.choose
theorem lk_spec (A : Nat → Nat) (t : Int) : (Xg.look t (typL A)).getD (.agg #[.int .i64 0, .int .i64 0, .slice none 0 0, .bool false]) = .agg #[.int .i64 (lkK A t).mp, .int .i64 (lkK A t).bk, .slice (lkA A t) (lkK A t).cl.length (lkK A t).cl.length, .bool (lkK A t).bt] ∧ (Xg.look t (typL A)).isSome = (kdOf t).isSome ∧ (∀ k', kdOf t = some k' → k' = (lkK A t)) ∧ Reads (typS A) 1 (.slice (lkA A t) (lkK A t).cl.length (lkK A t).cl.length) (lkK A t).cl.length ((lkK A t).cl.map (Value.int .i64)) ∧ 0 ≤ (lkK A t).mp ∧ (lkK A t).mp ≤ 5 ∧ 0 ≤ (lkK A t).bk ∧ (lkK A t).bk ≤ 128 ∧ (lkK A t).cl.length ≤ 4 := (look_typ A t).choose_spec.choose_spec
theorem lk_typ (A : Nat → Nat) (t : Int) : Xg.LookIs (typL A) t (.agg #[.int .i64 0, .int .i64 0, .slice none 0 0, .bool false]) (.agg #[.int .i64 (lkK A t).mp, .int .i64 (lkK A t).bk, .slice (lkA A t) (lkK A t).cl.length (lkK A t).cl.length, .bool (lkK A t).bt]) (kdOf t).isSome :=
  ⟨(lk_spec A t).1, (lk_spec A t).2.1⟩
/-- How many banks a code says. -/
def bnk (c : Int) : Int := 2 * 2 ^ c.toNat
theorem shl_bnk {c : Int} (h : 0 ≤ c ∧ c ≤ 6) : IntKind.wrap .i64 ((2 : Int) * 2 ^ min (Int.toNat c) (IntKind.bits .i64)) = bnk c ∧ 2 ≤ bnk c ∧ bnk c ≤ 128 := by
  rcases (show c = 0 ∨ c = 1 ∨ c = 2 ∨ c = 3 ∨ c = 4 ∨ c = 5 ∨ c = 6 by omega) with e | e | e | e | e | e | e <;> subst e <;> exact ⟨by decide, by decide, by decide⟩
/-- How many bytes a code of RAM says. -/
def rmC (c : Int) : Int := if c = 2 then 8192 else if c = 3 then 32768 else if c = 4 then 131072 else if c = 5 then 65536 else 0
/-- A header. -/
structure Hd where
  tt : List Int
  ty : Int
  mp : Int
  bk : Int
  rm : Int
  bt : Bool
  deriving Inhabited
def hdV (h : Hd) : Value := .agg #[.string (St h.tt), .int .i64 h.ty, .int .i64 h.mp, .int .i64 h.bk, .int .i64 h.rm, .bool h.bt]
def hd0 : Hd := ⟨[], 0, 0, 0, 0, false⟩
/-- The header of these bytes. -/
def hdB (B : List Int) (k : Kd) : Hd := ⟨tit ((B.drop 308).take 15), B.getD 327 0, k.mp, bnk (B.getD 328 0), if k.mp = 2 then 512 else rmC (B.getD 329 0), k.bt⟩
/-- What Check says: a header and 0, or an error. -/
def chk (B : List Int) : Hd × Int :=
  if B.length < 32768 ∨ 2097152 < B.length then (hd0, 41)
  else if mkdB B = false then (hd0, 42)
  else if (231 - hsum B 25) % 256 ≠ B.getD 333 0 then (hd0, 43)
  else if B.getD 323 0 = 192 then (hd0, 44)
  else match kdOf (B.getD 327 0) with
    | none => (hd0, 45)
    | some k => if 6 < B.getD 328 0 ∨ k.bk < bnk (B.getD 328 0) ∨ bnk (B.getD 328 0) * 16384 ≠ B.length then (hd0, 46)
      else if B.getD 329 0 ∉ k.cl then (hd0, 47)
      else (hdB B k, 0)
theorem kd_codes {t : Int} {k : Kd} (h : kdOf t = some k) : (∀ c, c ∈ k.cl → c = 0 ∨ c = 2 ∨ c = 3 ∨ c = 4 ∨ c = 5) ∧ (k.mp = 0 ∨ k.mp = 1 ∨ k.mp = 2 ∨ k.mp = 3 ∨ k.mp = 5) := by
  unfold kdOf at h
  simp only [Option.map_eq_some_iff] at h
  obtain ⟨⟨y, k'⟩, h1, rfl⟩ := h
  have h2 := List.mem_of_find?_eq_some h1
  simp only [kdL, List.mem_cons, Prod.mk.injEq, List.not_mem_nil, or_false] at h2
  rcases h2 with ⟨-, rfl⟩ | ⟨-, rfl⟩ | ⟨-, rfl⟩ | ⟨-, rfl⟩ | ⟨-, rfl⟩ | ⟨-, rfl⟩ | ⟨-, rfl⟩ | ⟨-, rfl⟩ | ⟨-, rfl⟩ | ⟨-, rfl⟩ | ⟨-, rfl⟩ | ⟨-, rfl⟩ | ⟨-, rfl⟩ | ⟨-, rfl⟩ <;> exact ⟨by simp <;> omega, by simp⟩
theorem ram_list (q : Nat) (h : (q : Int) = 0 ∨ (q : Int) = 2 ∨ (q : Int) = 3 ∨ (q : Int) = 4 ∨ (q : Int) = 5) : ([0, 0, 8192, 32768, 131072, 65536] : List Int).getD q 0 = rmC q := by
  rcases (show q = 0 ∨ q = 2 ∨ q = 3 ∨ q = 4 ∨ q = 5 by omega) with e | e | e | e | e <;> subst e <;> decide
theorem rams_o : Does Tryd.prog 25 [] [] (RetE (fun x : Option Addr × List Int => x.2.length = 6 ∧ x.2 = [0, 0, 8192, 32768, 131072, 65536]) (fun x => .slice x.1 6 6) (fun x => [ownS 3 1 (.slice x.1 6 6) 6 (x.2.map (Value.int .i64))])) :=
  does_conv (K := []) rams_d (fun g w F hS => hS) fun x _ g w F hS => ⟨(some ⟨x, 0, none⟩, [0, 0, 8192, 32768, 131072, 65536]), ⟨rfl, rfl⟩, rfl, SL.own_some (vs := ([0, 0, 8192, 32768, 131072, 65536] : List Int).map (Value.int .i64)) (sp := []) (n := 6) (sz := 1) hS rfl (Nat.le_refl _) (show (6 : Nat) ≤ maxLen by unfold maxLen; decide) rfl⟩
theorem check_d (A : HP) (a : Option Addr) (n c : Nat) (B : List Int) (hn : B.length = n) (hc : n ≤ c) (hm2 : n ≤ 9223372036854775807) (hB : isB B) (hR : Reads A 1 (.slice a n c) n (B.map (Value.int .u8))) : Does Tryd.prog 9 [.slice a n c] [A] (Ret (.tuple #[hdV (chk B).1, .int .i64 (chk B).2]) [A]) := by
  by_cases h0' : n < 32768 ∨ 2097152 < n
  · have hck : chk B = (hd0, 41) := by unfold chk; rw [if_pos (by omega)]
    rw [hck]
    (focus
      refine Xg.spec_of Go.Proofs.Tryd.func9 rfl Go.Proofs.Tryd.ntmps9 fun g F => ?_)
    by_cases h0a : n < 32768
    · (focus
        refine Xg.at_seq ?_
        refine Xg.at_region ?_
        refine Xg.ops_op (by kernel_rfl) (Xg.opx_new 6 [Value.string (ByteArray.mk #[]), iv 0, iv 0, iv 0, iv 0, Value.bool false] (by kernel_rfl) (by kernel_rfl) fun xb1 => ?_)
        refine Xg.ops_op (by kernel_rfl) (Xg.opx_pure ((iv 0)) rfl (fun _ => by kernel_rfl) ?_)
        refine Xg.ops_nil ?_
        refine Xg.at_seq ?_
        refine Xg.at_seq ?_
        refine Xg.at_region ?_
        refine Xg.ops_op (by kernel_rfl) (Xg.opx_pure ((Value.slice a n c)) rfl (fun _ => by kernel_rfl) ?_)
        refine Xg.ops_op (by kernel_rfl) (Xg.opx_pure ((iv (↑n : Int))) rfl (fun _ => by kernel_rfl) ?_)
        refine Xg.ops_op (by kernel_rfl) (Xg.opx_pure (.bool (decide ((((↑n : Int)) : Int) < ((32768 : Int))))) rfl (fun _ => by kernel_rfl) ?_)
        refine Xg.ops_op (by kernel_rfl) (Xg.opx_pure ((Value.bool (decide ((↑n : Int) < (32768 : Int))))) rfl (fun _ => by kernel_rfl) ?_)
        refine Xg.ops_flag (j := 13) (c := (decide ((↑n : Int) < (32768 : Int)))) (by kernel_rfl) (fun _ => ?_) (fun xh1 => absurd (of_decide_eq_false xh1) (by omega))
        refine Xg.ops_skip (by kernel_rfl) ?_
        refine Xg.ops_skip (by kernel_rfl) ?_
        refine Xg.ops_skip (by kernel_rfl) ?_
        refine Xg.ops_op (by kernel_rfl) (Xg.opx_pure ((Value.bool true)) rfl (fun _ => by kernel_rfl) ?_)
        refine Xg.ops_nil ?_
        refine Xg.at_true (t := true) (by kernel_rfl) rfl ?_
        refine Xg.at_seq ?_
        refine Xg.at_region ?_
        refine Xg.ops_op (by kernel_rfl) (Xg.opx_pure ((Value.agg #[Value.string (ByteArray.mk #[]), iv 0, iv 0, iv 0, iv 0, Value.bool false])) rfl (fun _ => by kernel_rfl) ?_)
        refine Xg.ops_op (by kernel_rfl) (Xg.opx_storen 6 (off := 0) 0 [Value.string (ByteArray.mk #[]), iv 0, iv 0, iv 0, iv 0, Value.bool false] (by kernel_rfl) rfl (by kernel_rfl) (by kernel_rfl) rfl (by kernel_rfl) (Nat.le_of_ble_eq_true (by kernel_rfl)) ?_)
        refine Xg.ops_op (by kernel_rfl) (Xg.opx_pure ((iv 41)) rfl (fun _ => by kernel_rfl) ?_)
        refine Xg.ops_nil ?_
        refine Xg.at_ret_feed (v := (Value.tuple #[Value.agg #[Value.string (ByteArray.mk #[]), iv 0, iv 0, iv 0, iv 0, Value.bool false], iv 41])) [(Addr.mk xb1 (0 : Nat) none), (Addr.mk xb1 (1 : Nat) none), (Addr.mk xb1 (2 : Nat) none), (Addr.mk xb1 (3 : Nat) none), (Addr.mk xb1 (4 : Nat) none), (Addr.mk xb1 (5 : Nat) none)] [Value.string (ByteArray.mk #[]), iv 0, iv 0, iv 0, iv 0, Value.bool false] [1] [A] Go.Proofs.Tryd.func9 (by kernel_rfl) (Xg.cells_cons (b := xb1) (off := 0) 0 rfl (by kernel_rfl) (Xg.cells_cons (b := xb1) (off := 1) 0 rfl (by kernel_rfl) (Xg.cells_cons (b := xb1) (off := 2) 0 rfl (by kernel_rfl) (Xg.cells_cons (b := xb1) (off := 3) 0 rfl (by kernel_rfl) (Xg.cells_cons (b := xb1) (off := 4) 0 rfl (by kernel_rfl) (Xg.cells_cons (b := xb1) (off := 5) 0 rfl (by kernel_rfl) Xg.cells_nil)))))) (by kernel_rfl) (by kernel_rfl) ?_
        exact ⟨by kernel_rfl, by kernel_rfl⟩)
    · (focus
        refine Xg.at_seq ?_
        refine Xg.at_region ?_
        refine Xg.ops_op (by kernel_rfl) (Xg.opx_new 6 [Value.string (ByteArray.mk #[]), iv 0, iv 0, iv 0, iv 0, Value.bool false] (by kernel_rfl) (by kernel_rfl) fun xb1 => ?_)
        refine Xg.ops_op (by kernel_rfl) (Xg.opx_pure ((iv 0)) rfl (fun _ => by kernel_rfl) ?_)
        refine Xg.ops_nil ?_
        refine Xg.at_seq ?_
        refine Xg.at_seq ?_
        refine Xg.at_region ?_
        refine Xg.ops_op (by kernel_rfl) (Xg.opx_pure ((Value.slice a n c)) rfl (fun _ => by kernel_rfl) ?_)
        refine Xg.ops_op (by kernel_rfl) (Xg.opx_pure ((iv (↑n : Int))) rfl (fun _ => by kernel_rfl) ?_)
        refine Xg.ops_op (by kernel_rfl) (Xg.opx_pure (.bool (decide ((((↑n : Int)) : Int) < ((32768 : Int))))) rfl (fun _ => by kernel_rfl) ?_)
        refine Xg.ops_op (by kernel_rfl) (Xg.opx_pure ((Value.bool (decide ((↑n : Int) < (32768 : Int))))) rfl (fun _ => by kernel_rfl) ?_)
        refine Xg.ops_flag (j := 13) (c := (decide ((↑n : Int) < (32768 : Int)))) (by kernel_rfl) (fun xh1 => absurd (of_decide_eq_true xh1) (by omega)) (fun _ => ?_)
        refine Xg.ops_op (by kernel_rfl) (Xg.opx_pure ((Value.slice a n c)) rfl (fun _ => by kernel_rfl) ?_)
        refine Xg.ops_op (by kernel_rfl) (Xg.opx_pure ((iv (↑n : Int))) rfl (fun _ => by kernel_rfl) ?_)
        refine Xg.ops_op (by kernel_rfl) (Xg.opx_pure (.bool (decide ((((↑n : Int)) : Int) > ((2097152 : Int))))) rfl (fun _ => by kernel_rfl) ?_)
        refine Xg.ops_flag (j := 16) (c := (decide ((↑n : Int) > (2097152 : Int)))) (by kernel_rfl) (fun _ => ?_) (fun xh1 => absurd (of_decide_eq_false xh1) (by omega))
        refine Xg.ops_op (by kernel_rfl) (Xg.opx_pure ((Value.bool true)) rfl (fun _ => by kernel_rfl) ?_)
        refine Xg.ops_nil ?_
        refine Xg.at_true (t := true) (by kernel_rfl) rfl ?_
        refine Xg.at_seq ?_
        refine Xg.at_region ?_
        refine Xg.ops_op (by kernel_rfl) (Xg.opx_pure ((Value.agg #[Value.string (ByteArray.mk #[]), iv 0, iv 0, iv 0, iv 0, Value.bool false])) rfl (fun _ => by kernel_rfl) ?_)
        refine Xg.ops_op (by kernel_rfl) (Xg.opx_storen 6 (off := 0) 0 [Value.string (ByteArray.mk #[]), iv 0, iv 0, iv 0, iv 0, Value.bool false] (by kernel_rfl) rfl (by kernel_rfl) (by kernel_rfl) rfl (by kernel_rfl) (Nat.le_of_ble_eq_true (by kernel_rfl)) ?_)
        refine Xg.ops_op (by kernel_rfl) (Xg.opx_pure ((iv 41)) rfl (fun _ => by kernel_rfl) ?_)
        refine Xg.ops_nil ?_
        refine Xg.at_ret_feed (v := (Value.tuple #[Value.agg #[Value.string (ByteArray.mk #[]), iv 0, iv 0, iv 0, iv 0, Value.bool false], iv 41])) [(Addr.mk xb1 (0 : Nat) none), (Addr.mk xb1 (1 : Nat) none), (Addr.mk xb1 (2 : Nat) none), (Addr.mk xb1 (3 : Nat) none), (Addr.mk xb1 (4 : Nat) none), (Addr.mk xb1 (5 : Nat) none)] [Value.string (ByteArray.mk #[]), iv 0, iv 0, iv 0, iv 0, Value.bool false] [1] [A] Go.Proofs.Tryd.func9 (by kernel_rfl) (Xg.cells_cons (b := xb1) (off := 0) 0 rfl (by kernel_rfl) (Xg.cells_cons (b := xb1) (off := 1) 0 rfl (by kernel_rfl) (Xg.cells_cons (b := xb1) (off := 2) 0 rfl (by kernel_rfl) (Xg.cells_cons (b := xb1) (off := 3) 0 rfl (by kernel_rfl) (Xg.cells_cons (b := xb1) (off := 4) 0 rfl (by kernel_rfl) (Xg.cells_cons (b := xb1) (off := 5) 0 rfl (by kernel_rfl) Xg.cells_nil)))))) (by kernel_rfl) (by kernel_rfl) ?_
        exact ⟨by kernel_rfl, by kernel_rfl⟩)
  obtain ⟨h0, h0b⟩ : 32768 ≤ n ∧ n ≤ 2097152 := by omega
  clear h0'
  have hb3 := isB_get hB (i := 333) (by omega)
  have hb4 := isB_get hB (i := 323) (by omega)
  have hb7 := isB_get hB (i := 327) (by omega)
  have hb8 := isB_get hB (i := 328) (by omega)
  have hb9 := isB_get hB (i := 329) (by omega)
  have hmk := marked_d A a n c B hn (by omega) hm2 hR
  have hsm := sum_d A a n c B hn (by omega) hc hm2 (fun i hi => isB_get hB (by omega)) hR
  have hck : chk B = (if mkdB B = false then (hd0, (42 : Int))
    else if (231 - hsum B 25) % 256 ≠ B.getD 333 0 then (hd0, 43)
    else if B.getD 323 0 = 192 then (hd0, 44)
    else match kdOf (B.getD 327 0) with
      | none => (hd0, 45)
      | some k => if 6 < B.getD 328 0 ∨ k.bk < bnk (B.getD 328 0) ∨ bnk (B.getD 328 0) * 16384 ≠ B.length then (hd0, 46)
        else if B.getD 329 0 ∉ k.cl then (hd0, 47)
        else (hdB B k, 0)) := by
    unfold chk; rw [if_neg (by omega)]
  (focus
    refine Xg.spec_of Go.Proofs.Tryd.func9 rfl Go.Proofs.Tryd.ntmps9 fun g F => ?_)
  (focus
    refine Xg.at_seq ?_
    refine Xg.at_region ?_
    refine Xg.ops_op (by kernel_rfl) (Xg.opx_new 6 [Value.string (ByteArray.mk #[]), iv 0, iv 0, iv 0, iv 0, Value.bool false] (by kernel_rfl) (by kernel_rfl) fun xb1 => ?_)
    refine Xg.ops_op (by kernel_rfl) (Xg.opx_pure ((iv 0)) rfl (fun _ => by kernel_rfl) ?_)
    refine Xg.ops_nil ?_
    refine Xg.at_seq ?_
    refine Xg.at_seq ?_
    refine Xg.at_region ?_
    refine Xg.ops_op (by kernel_rfl) (Xg.opx_pure ((Value.slice a n c)) rfl (fun _ => by kernel_rfl) ?_)
    refine Xg.ops_op (by kernel_rfl) (Xg.opx_pure ((iv (↑n : Int))) rfl (fun _ => by kernel_rfl) ?_)
    refine Xg.ops_op (by kernel_rfl) (Xg.opx_pure (.bool (decide ((((↑n : Int)) : Int) < ((32768 : Int))))) rfl (fun _ => by kernel_rfl) ?_)
    refine Xg.ops_op (by kernel_rfl) (Xg.opx_pure ((Value.bool (decide ((↑n : Int) < (32768 : Int))))) rfl (fun _ => by kernel_rfl) ?_)
    refine Xg.ops_flag (j := 13) (c := (decide ((↑n : Int) < (32768 : Int)))) (by kernel_rfl) (fun xh1 => absurd (of_decide_eq_true xh1) (by omega)) (fun _ => ?_)
    refine Xg.ops_op (by kernel_rfl) (Xg.opx_pure ((Value.slice a n c)) rfl (fun _ => by kernel_rfl) ?_)
    refine Xg.ops_op (by kernel_rfl) (Xg.opx_pure ((iv (↑n : Int))) rfl (fun _ => by kernel_rfl) ?_)
    refine Xg.ops_op (by kernel_rfl) (Xg.opx_pure (.bool (decide ((((↑n : Int)) : Int) > ((2097152 : Int))))) rfl (fun _ => by kernel_rfl) ?_)
    refine Xg.ops_flag (j := 16) (c := (decide ((↑n : Int) > (2097152 : Int)))) (by kernel_rfl) (fun xh1 => absurd (of_decide_eq_true xh1) (by omega)) (fun _ => ?_)
    refine Xg.ops_op (by kernel_rfl) (Xg.opx_pure ((Value.bool false)) rfl (fun _ => by kernel_rfl) ?_)
    refine Xg.ops_nil ?_
    refine Xg.at_false (t := false) (by kernel_rfl) rfl ?_
    refine Xg.at_skip ?_
    refine Xg.at_seq ?_)
  (focus
    refine Xg.at_cut (α := (Nat × (Nat → Nat) × Nat) × (Nat → Value)) (fun x9 => ((fun x => True) : (Nat × (Nat → Nat) × Nat) → Prop) x9.1) (fun x9 => Xg.headT [Value.slice a n c, tu, pv xb1 0, iv 0, tu, tu, tu, tu, tu, tu, Value.slice a n c, iv (↑n : Int), Value.bool (decide ((↑n : Int) < (32768 : Int))), Value.bool false, Value.slice a n c, iv (↑n : Int), Value.bool false, Value.bool false, tu, tu, tu, tu, tu, tu, tu, tu, tu, tu, tu, tu, tu, tu, tu, tu, tu, tu, tu, tu, tu, tu, tu, tu, tu, tu, tu, tu, tu, tu, tu, tu, tu, tu, tu, tu, tu, tu, tu, tu, tu, tu, tu, tu, tu, tu, tu, tu, tu, tu, tu, tu, tu, tu, tu, tu, tu, tu, tu, tu, tu, tu, tu, tu, tu, tu, tu, tu, tu, tu, tu, tu, tu, tu, tu, tu, tu, tu, tu, tu, tu, tu, tu, tu, tu, tu, tu] [19, 20, 21, 22, 23, 24, 25, 26] (((fun x => [(4, .pointer (some ⟨x.2.2, 0, none⟩)), (5, .bool (kdOf (B.getD 327 0)).isSome)]) : (Nat × (Nat → Nat) × Nat) → List (Nat × Go.Value)) x9.1) x9.2) (fun x9 => ((fun x => [mp x.1 .u8 (typL x.2.1), typS x.2.1, row x.2.2 48 [.int .i64 (lkK x.2.1 (B.getD 327 0)).mp, .int .i64 (lkK x.2.1 (B.getD 327 0)).bk, .slice (lkA x.2.1 (B.getD 327 0)) (lkK x.2.1 (B.getD 327 0)).cl.length (lkK x.2.1 (B.getD 327 0)).cl.length, .bool (lkK x.2.1 (B.getD 327 0)).bt], row xb1 29 [.string (St []), .int .i64 0, .int .i64 0, .int .i64 0, .int .i64 0, .bool false], A]) : (Nat × (Nat → Nat) × Nat) → List Go.Sl.HP) x9.1) (fun kk hk => ?_) ?_)
  · (focus
      refine Xg.at_draw [0, 4, 8, 9] [(2, [0, 1, 2, 8], (RdIs (1 : Nat) (Value.slice a n c) n (List.map (Value.int IntKind.u8) B))), (3, [0, 1, 2, 3, 8], (RdIs (1 : Nat) (Value.slice a n c) n (List.map (Value.int IntKind.u8) B)))] (by kernel_rfl) ?_
      refine Xg.any_pure ((Value.slice a n c)) 1 (by kernel_rfl) rfl (by kernel_rfl) (by kernel_rfl) (by kernel_rfl) (by kernel_rfl) rfl (fun _ => by kernel_rfl) ?_
      refine Xg.any_reads (.pointer (some (Addr.mk (Xg.blk a) (offA a + (327 : Nat)) none))) 2 0 (by kernel_rfl) rfl (by kernel_rfl) (by kernel_rfl) (by kernel_rfl) (by kernel_rfl) rfl rfl (by kernel_rfl) (Xg.rd_now 1 hR (by kernel_rfl)) (Xg.run_ix_rd (elem := 5) (kd := .i64) (e := ((327 : Int))) 1 ((327 : Nat)) (offA a + (327 : Nat)) (by kernel_rfl) (by kernel_rfl) (by kernel_rfl) (by kernel_rfl) rfl (by omega) (by simp only [List.length_map]; omega) (by omega)) ?_
      refine Xg.any_reads (uv (B.getD (327 : Nat) (0 : Int))) 3 1 (by kernel_rfl) rfl (by kernel_rfl) (by kernel_rfl) (by kernel_rfl) (by kernel_rfl) rfl rfl (by kernel_rfl) (Xg.rd_now 1 hR (by kernel_rfl)) (Xg.run_load_rd (off0 := (offA a + (327 : Nat))) ((327 : Nat)) (by kernel_rfl) (by omega) (Xg.get_ints (by omega)) (by kernel_rfl)) ?_
      refine Xg.any_each [0, 8] (by kernel_rfl) rfl ⟨?_, ?_, trivial⟩
      refine Xg.comes_act rfl (by kernel_rfl) (by kernel_rfl) (Xg.opx_callE' [] (fun xx1 => [mp xx1.fst IntKind.u8 (typL xx1.snd), typS xx1.snd, row xb1 (29 : Nat) [Value.string (ByteArray.mk #[]), iv 0, iv 0, iv 0, iv 0, Value.bool false], A]) (fun _ => by kernel_rfl) (@Go.Proofs.YthjhkondmobaeaaDoor.types_s ) (by kernel_rfl) (by kernel_rfl) (by kernel_rfl) fun xx1 xh1 => ?_)
      try dsimp only at xh1
      refine Xg.acts (Xg.owes_rd 3 hR (by kernel_rfl) (Xg.owes_rd 3 hR (by kernel_rfl) Xg.owes_nil)) ?_
      rotate_left
      refine Xg.comes_act rfl (by kernel_rfl) (by kernel_rfl) (Xg.opx_new 4 [iv 0, iv 0, Value.slice none (0 : Nat) (0 : Nat), Value.bool false] (by kernel_rfl) (by kernel_rfl) fun xb2 => ?_)
      refine Xg.acts (Xg.owes_rd 2 hR (by kernel_rfl) (Xg.owes_rd 2 hR (by kernel_rfl) Xg.owes_nil)) ?_
      rotate_left
      refine Xg.any_each [4, 8] (by kernel_rfl) rfl ⟨?_, ?_, trivial⟩
      refine Xg.comes_act rfl (by kernel_rfl) (by kernel_rfl) (Xg.opx_lookup_is (el := 48) (b := xx1.fst) (kd := .u8) (k := (B.getD (327 : Nat) (0 : Int))) (z := (Value.agg #[iv 0, iv 0, Value.slice none (0 : Nat) (0 : Nat), Value.bool false])) (v := (Value.agg #[iv (lkK xx1.snd (B.getD (327 : Nat) (0 : Int))).mp, iv (lkK xx1.snd (B.getD (327 : Nat) (0 : Int))).bk, Value.slice (lkA xx1.snd (B.getD (327 : Nat) (0 : Int))) (lkK xx1.snd (B.getD (327 : Nat) (0 : Int))).cl.length (lkK xx1.snd (B.getD (327 : Nat) (0 : Int))).cl.length, Value.bool (lkK xx1.snd (B.getD (327 : Nat) (0 : Int))).bt])) (l := (typL xx1.snd)) 4 48 0 rfl (by kernel_rfl) (Xg.el_get (by kernel_rfl) (by kernel_rfl)) (by kernel_rfl) (by kernel_rfl) (@Go.Proofs.YthjhkondmobaeaaDoor.lk_typ (xx1.snd) ((B.getD (327 : Nat) (0 : Int)))) ?_)
      refine Xg.acts (Xg.owes_skip (by kernel_rfl) (Xg.owes_skip (by kernel_rfl) Xg.owes_nil)) ?_
      rotate_left
      refine Xg.comes_act rfl (by kernel_rfl) (by kernel_rfl) (Xg.opx_new 4 [iv 0, iv 0, Value.slice none (0 : Nat) (0 : Nat), Value.bool false] (by kernel_rfl) (by kernel_rfl) fun xb2 => ?_)
      refine Xg.acts (Xg.owes_rd 4 hR (by kernel_rfl) (Xg.owes_rd 4 hR (by kernel_rfl) Xg.owes_nil)) ?_
      rotate_left
      refine Xg.any_each [0] (by kernel_rfl) rfl ⟨?_, trivial⟩
      refine Xg.comes_act rfl (by kernel_rfl) (by kernel_rfl) (Xg.opx_callE' [] (fun xx1 => [mp xx1.fst IntKind.u8 (typL xx1.snd), typS xx1.snd, row xb2 (48 : Nat) [iv 0, iv 0, Value.slice none (0 : Nat) (0 : Nat), Value.bool false], row xb1 (29 : Nat) [Value.string (ByteArray.mk #[]), iv 0, iv 0, iv 0, iv 0, Value.bool false], A]) (fun _ => by kernel_rfl) (@Go.Proofs.YthjhkondmobaeaaDoor.types_s ) (by kernel_rfl) (by kernel_rfl) (by kernel_rfl) fun xx1 xh1 => ?_)
      try dsimp only at xh1
      refine Xg.acts (Xg.owes_rd 4 hR (by kernel_rfl) (Xg.owes_rd 4 hR (by kernel_rfl) Xg.owes_nil)) ?_
      refine Xg.any_each [4] (by kernel_rfl) rfl ⟨?_, trivial⟩
      refine Xg.comes_act rfl (by kernel_rfl) (by kernel_rfl) (Xg.opx_lookup_is (el := 48) (b := xx1.fst) (kd := .u8) (k := (B.getD (327 : Nat) (0 : Int))) (z := (Value.agg #[iv 0, iv 0, Value.slice none (0 : Nat) (0 : Nat), Value.bool false])) (v := (Value.agg #[iv (lkK xx1.snd (B.getD (327 : Nat) (0 : Int))).mp, iv (lkK xx1.snd (B.getD (327 : Nat) (0 : Int))).bk, Value.slice (lkA xx1.snd (B.getD (327 : Nat) (0 : Int))) (lkK xx1.snd (B.getD (327 : Nat) (0 : Int))).cl.length (lkK xx1.snd (B.getD (327 : Nat) (0 : Int))).cl.length, Value.bool (lkK xx1.snd (B.getD (327 : Nat) (0 : Int))).bt])) (l := (typL xx1.snd)) 4 48 0 rfl (by kernel_rfl) (Xg.el_get (by kernel_rfl) (by kernel_rfl)) (by kernel_rfl) (by kernel_rfl) (@Go.Proofs.YthjhkondmobaeaaDoor.lk_typ (xx1.snd) ((B.getD (327 : Nat) (0 : Int)))) ?_)
      refine Xg.acts (Xg.owes_skip (by kernel_rfl) (Xg.owes_skip (by kernel_rfl) Xg.owes_nil)) ?_
      refine Xg.any_pure ((Value.tuple #[Value.agg #[iv (lkK xx1.snd (B.getD (327 : Nat) (0 : Int))).mp, iv (lkK xx1.snd (B.getD (327 : Nat) (0 : Int))).bk, Value.slice (lkA xx1.snd (B.getD (327 : Nat) (0 : Int))) (lkK xx1.snd (B.getD (327 : Nat) (0 : Int))).cl.length (lkK xx1.snd (B.getD (327 : Nat) (0 : Int))).cl.length, Value.bool (lkK xx1.snd (B.getD (327 : Nat) (0 : Int))).bt], Value.bool (kdOf (B.getD (327 : Nat) (0 : Int))).isSome])) 5 (by kernel_rfl) rfl (by kernel_rfl) (by kernel_rfl) (by kernel_rfl) (by kernel_rfl) rfl (fun _ => by kernel_rfl) ?_
      refine Xg.any_pure ((Value.agg #[iv (lkK xx1.snd (B.getD (327 : Nat) (0 : Int))).mp, iv (lkK xx1.snd (B.getD (327 : Nat) (0 : Int))).bk, Value.slice (lkA xx1.snd (B.getD (327 : Nat) (0 : Int))) (lkK xx1.snd (B.getD (327 : Nat) (0 : Int))).cl.length (lkK xx1.snd (B.getD (327 : Nat) (0 : Int))).cl.length, Value.bool (lkK xx1.snd (B.getD (327 : Nat) (0 : Int))).bt])) 6 (by kernel_rfl) rfl (by kernel_rfl) (by kernel_rfl) (by kernel_rfl) (by kernel_rfl) rfl (fun _ => by kernel_rfl) ?_
      refine Xg.any_pure ((Value.bool (kdOf (B.getD (327 : Nat) (0 : Int))).isSome)) 7 (by kernel_rfl) rfl (by kernel_rfl) (by kernel_rfl) (by kernel_rfl) (by kernel_rfl) rfl (fun _ => by kernel_rfl) ?_
      refine Xg.any_each [9] (by kernel_rfl) rfl ⟨?_, trivial⟩
      refine Xg.comes_act rfl (by kernel_rfl) (by kernel_rfl) (Xg.opx_storen 4 (off := 0) 2 [iv (lkK xx1.snd (B.getD (327 : Nat) (0 : Int))).mp, iv (lkK xx1.snd (B.getD (327 : Nat) (0 : Int))).bk, Value.slice (lkA xx1.snd (B.getD (327 : Nat) (0 : Int))) (lkK xx1.snd (B.getD (327 : Nat) (0 : Int))).cl.length (lkK xx1.snd (B.getD (327 : Nat) (0 : Int))).cl.length, Value.bool (lkK xx1.snd (B.getD (327 : Nat) (0 : Int))).bt] (by kernel_rfl) rfl (by kernel_rfl) (by kernel_rfl) rfl (by kernel_rfl) (Nat.le_of_ble_eq_true (by kernel_rfl)) ?_)
      refine Xg.acts (Xg.owes_skip (by kernel_rfl) (Xg.owes_skip (by kernel_rfl) Xg.owes_nil)) ?_
      refine Xg.any_pure ((Value.bool (kdOf (B.getD (327 : Nat) (0 : Int))).isSome)) 10 (by kernel_rfl) rfl (by kernel_rfl) (by kernel_rfl) (by kernel_rfl) (by kernel_rfl) rfl (fun _ => by kernel_rfl) ?_
      refine Xg.any_nil (by kernel_rfl) ?_
      rotate_left
      refine Xg.any_pure ((Value.tuple #[Value.agg #[iv (lkK xx1.snd (B.getD (327 : Nat) (0 : Int))).mp, iv (lkK xx1.snd (B.getD (327 : Nat) (0 : Int))).bk, Value.slice (lkA xx1.snd (B.getD (327 : Nat) (0 : Int))) (lkK xx1.snd (B.getD (327 : Nat) (0 : Int))).cl.length (lkK xx1.snd (B.getD (327 : Nat) (0 : Int))).cl.length, Value.bool (lkK xx1.snd (B.getD (327 : Nat) (0 : Int))).bt], Value.bool (kdOf (B.getD (327 : Nat) (0 : Int))).isSome])) 5 (by kernel_rfl) rfl (by kernel_rfl) (by kernel_rfl) (by kernel_rfl) (by kernel_rfl) rfl (fun _ => by kernel_rfl) ?_
      refine Xg.any_pure ((Value.agg #[iv (lkK xx1.snd (B.getD (327 : Nat) (0 : Int))).mp, iv (lkK xx1.snd (B.getD (327 : Nat) (0 : Int))).bk, Value.slice (lkA xx1.snd (B.getD (327 : Nat) (0 : Int))) (lkK xx1.snd (B.getD (327 : Nat) (0 : Int))).cl.length (lkK xx1.snd (B.getD (327 : Nat) (0 : Int))).cl.length, Value.bool (lkK xx1.snd (B.getD (327 : Nat) (0 : Int))).bt])) 6 (by kernel_rfl) rfl (by kernel_rfl) (by kernel_rfl) (by kernel_rfl) (by kernel_rfl) rfl (fun _ => by kernel_rfl) ?_
      refine Xg.any_pure ((Value.bool (kdOf (B.getD (327 : Nat) (0 : Int))).isSome)) 7 (by kernel_rfl) rfl (by kernel_rfl) (by kernel_rfl) (by kernel_rfl) (by kernel_rfl) rfl (fun _ => by kernel_rfl) ?_
      refine Xg.any_each [8] (by kernel_rfl) rfl ⟨?_, trivial⟩
      refine Xg.comes_act rfl (by kernel_rfl) (by kernel_rfl) (Xg.opx_new 4 [iv 0, iv 0, Value.slice none (0 : Nat) (0 : Nat), Value.bool false] (by kernel_rfl) (by kernel_rfl) fun xb2 => ?_)
      refine Xg.acts (Xg.owes_rd 4 hR (by kernel_rfl) (Xg.owes_rd 4 hR (by kernel_rfl) Xg.owes_nil)) ?_
      refine Xg.any_each [9] (by kernel_rfl) rfl ⟨?_, trivial⟩
      refine Xg.comes_act rfl (by kernel_rfl) (by kernel_rfl) (Xg.opx_storen 4 (off := 0) 0 [iv (lkK xx1.snd (B.getD (327 : Nat) (0 : Int))).mp, iv (lkK xx1.snd (B.getD (327 : Nat) (0 : Int))).bk, Value.slice (lkA xx1.snd (B.getD (327 : Nat) (0 : Int))) (lkK xx1.snd (B.getD (327 : Nat) (0 : Int))).cl.length (lkK xx1.snd (B.getD (327 : Nat) (0 : Int))).cl.length, Value.bool (lkK xx1.snd (B.getD (327 : Nat) (0 : Int))).bt] (by kernel_rfl) rfl (by kernel_rfl) (by kernel_rfl) rfl (by kernel_rfl) (Nat.le_of_ble_eq_true (by kernel_rfl)) ?_)
      refine Xg.acts (Xg.owes_skip (by kernel_rfl) (Xg.owes_skip (by kernel_rfl) Xg.owes_nil)) ?_
      refine Xg.any_pure ((Value.bool (kdOf (B.getD (327 : Nat) (0 : Int))).isSome)) 10 (by kernel_rfl) rfl (by kernel_rfl) (by kernel_rfl) (by kernel_rfl) (by kernel_rfl) rfl (fun _ => by kernel_rfl) ?_
      refine Xg.any_nil (by kernel_rfl) ?_
      rotate_left
      refine Xg.any_each [4] (by kernel_rfl) rfl ⟨?_, trivial⟩
      refine Xg.comes_act rfl (by kernel_rfl) (by kernel_rfl) (Xg.opx_lookup_is (el := 48) (b := xx1.fst) (kd := .u8) (k := (B.getD (327 : Nat) (0 : Int))) (z := (Value.agg #[iv 0, iv 0, Value.slice none (0 : Nat) (0 : Nat), Value.bool false])) (v := (Value.agg #[iv (lkK xx1.snd (B.getD (327 : Nat) (0 : Int))).mp, iv (lkK xx1.snd (B.getD (327 : Nat) (0 : Int))).bk, Value.slice (lkA xx1.snd (B.getD (327 : Nat) (0 : Int))) (lkK xx1.snd (B.getD (327 : Nat) (0 : Int))).cl.length (lkK xx1.snd (B.getD (327 : Nat) (0 : Int))).cl.length, Value.bool (lkK xx1.snd (B.getD (327 : Nat) (0 : Int))).bt])) (l := (typL xx1.snd)) 4 48 1 rfl (by kernel_rfl) (Xg.el_get (by kernel_rfl) (by kernel_rfl)) (by kernel_rfl) (by kernel_rfl) (@Go.Proofs.YthjhkondmobaeaaDoor.lk_typ (xx1.snd) ((B.getD (327 : Nat) (0 : Int)))) ?_)
      refine Xg.acts (Xg.owes_skip (by kernel_rfl) (Xg.owes_skip (by kernel_rfl) Xg.owes_nil)) ?_
      refine Xg.any_pure ((Value.tuple #[Value.agg #[iv (lkK xx1.snd (B.getD (327 : Nat) (0 : Int))).mp, iv (lkK xx1.snd (B.getD (327 : Nat) (0 : Int))).bk, Value.slice (lkA xx1.snd (B.getD (327 : Nat) (0 : Int))) (lkK xx1.snd (B.getD (327 : Nat) (0 : Int))).cl.length (lkK xx1.snd (B.getD (327 : Nat) (0 : Int))).cl.length, Value.bool (lkK xx1.snd (B.getD (327 : Nat) (0 : Int))).bt], Value.bool (kdOf (B.getD (327 : Nat) (0 : Int))).isSome])) 5 (by kernel_rfl) rfl (by kernel_rfl) (by kernel_rfl) (by kernel_rfl) (by kernel_rfl) rfl (fun _ => by kernel_rfl) ?_
      refine Xg.any_pure ((Value.agg #[iv (lkK xx1.snd (B.getD (327 : Nat) (0 : Int))).mp, iv (lkK xx1.snd (B.getD (327 : Nat) (0 : Int))).bk, Value.slice (lkA xx1.snd (B.getD (327 : Nat) (0 : Int))) (lkK xx1.snd (B.getD (327 : Nat) (0 : Int))).cl.length (lkK xx1.snd (B.getD (327 : Nat) (0 : Int))).cl.length, Value.bool (lkK xx1.snd (B.getD (327 : Nat) (0 : Int))).bt])) 6 (by kernel_rfl) rfl (by kernel_rfl) (by kernel_rfl) (by kernel_rfl) (by kernel_rfl) rfl (fun _ => by kernel_rfl) ?_
      refine Xg.any_pure ((Value.bool (kdOf (B.getD (327 : Nat) (0 : Int))).isSome)) 7 (by kernel_rfl) rfl (by kernel_rfl) (by kernel_rfl) (by kernel_rfl) (by kernel_rfl) rfl (fun _ => by kernel_rfl) ?_
      refine Xg.any_each [9] (by kernel_rfl) rfl ⟨?_, trivial⟩
      refine Xg.comes_act rfl (by kernel_rfl) (by kernel_rfl) (Xg.opx_storen 4 (off := 0) 0 [iv (lkK xx1.snd (B.getD (327 : Nat) (0 : Int))).mp, iv (lkK xx1.snd (B.getD (327 : Nat) (0 : Int))).bk, Value.slice (lkA xx1.snd (B.getD (327 : Nat) (0 : Int))) (lkK xx1.snd (B.getD (327 : Nat) (0 : Int))).cl.length (lkK xx1.snd (B.getD (327 : Nat) (0 : Int))).cl.length, Value.bool (lkK xx1.snd (B.getD (327 : Nat) (0 : Int))).bt] (by kernel_rfl) rfl (by kernel_rfl) (by kernel_rfl) rfl (by kernel_rfl) (Nat.le_of_ble_eq_true (by kernel_rfl)) ?_)
      refine Xg.acts (Xg.owes_skip (by kernel_rfl) (Xg.owes_skip (by kernel_rfl) Xg.owes_nil)) ?_
      refine Xg.any_pure ((Value.bool (kdOf (B.getD (327 : Nat) (0 : Int))).isSome)) 10 (by kernel_rfl) rfl (by kernel_rfl) (by kernel_rfl) (by kernel_rfl) (by kernel_rfl) rfl (fun _ => by kernel_rfl) ?_
      refine Xg.any_nil (by kernel_rfl) ?_)
    (focus
      refine Xg.at_keep [1, 2, 0, 3, 4] (by kernel_rfl) ?_
      refine Xg.At.same (by kernel_rfl) ?_ (hk (((xx1.1, xx1.2, xb2)), fun j9 => ([Value.slice a n c, tu, pv xb1 0, iv 0, pv xb2 0, Value.bool (kdOf (B.getD (327 : Nat) (0 : Int))).isSome, tu, tu, tu, tu, Value.slice a n c, iv (↑n : Int), Value.bool (decide ((↑n : Int) < (32768 : Int))), Value.bool false, Value.slice a n c, iv (↑n : Int), Value.bool false, Value.bool false, tu, Value.tuple #[Value.agg #[iv (lkK xx1.snd (B.getD (327 : Nat) (0 : Int))).mp, iv (lkK xx1.snd (B.getD (327 : Nat) (0 : Int))).bk, Value.slice (lkA xx1.snd (B.getD (327 : Nat) (0 : Int))) (lkK xx1.snd (B.getD (327 : Nat) (0 : Int))).cl.length (lkK xx1.snd (B.getD (327 : Nat) (0 : Int))).cl.length, Value.bool (lkK xx1.snd (B.getD (327 : Nat) (0 : Int))).bt], Value.bool (kdOf (B.getD (327 : Nat) (0 : Int))).isSome], Value.map (some xx1.fst), Value.slice a n c, Value.pointer (some (Addr.mk (blk a) (offA a + (327 : Nat)) none)), uv (B.getD (327 : Nat) (0 : Int)), Value.tuple #[Value.agg #[iv (lkK xx1.snd (B.getD (327 : Nat) (0 : Int))).mp, iv (lkK xx1.snd (B.getD (327 : Nat) (0 : Int))).bk, Value.slice (lkA xx1.snd (B.getD (327 : Nat) (0 : Int))) (lkK xx1.snd (B.getD (327 : Nat) (0 : Int))).cl.length (lkK xx1.snd (B.getD (327 : Nat) (0 : Int))).cl.length, Value.bool (lkK xx1.snd (B.getD (327 : Nat) (0 : Int))).bt], Value.bool (kdOf (B.getD (327 : Nat) (0 : Int))).isSome], Value.agg #[iv (lkK xx1.snd (B.getD (327 : Nat) (0 : Int))).mp, iv (lkK xx1.snd (B.getD (327 : Nat) (0 : Int))).bk, Value.slice (lkA xx1.snd (B.getD (327 : Nat) (0 : Int))) (lkK xx1.snd (B.getD (327 : Nat) (0 : Int))).cl.length (lkK xx1.snd (B.getD (327 : Nat) (0 : Int))).cl.length, Value.bool (lkK xx1.snd (B.getD (327 : Nat) (0 : Int))).bt], Value.bool (kdOf (B.getD (327 : Nat) (0 : Int))).isSome, tu, tu, tu, tu, tu, tu, tu, tu, tu, tu, tu, tu, tu, tu, tu, tu, tu, tu, tu, tu, tu, tu, tu, tu, tu, tu, tu, tu, tu, tu, tu, tu, tu, tu, tu, tu, tu, tu, tu, tu, tu, tu, tu, tu, tu, tu, tu, tu, tu, tu, tu, tu, tu, tu, tu, tu, tu, tu, tu, tu, tu, tu, tu, tu, tu, tu, tu, tu, tu, tu, tu, tu, tu, tu, tu, tu, tu, tu] : List Value).getD j9 undef) ?_))
    · rfl
    · trivial
    (focus
      refine Xg.at_keep [0, 1, 2, 3, 4] (by kernel_rfl) ?_
      refine Xg.At.same (by kernel_rfl) ?_ (hk (((xx1.1, xx1.2, xb2)), fun j9 => ([Value.slice a n c, tu, pv xb1 0, iv 0, pv xb2 0, Value.bool (kdOf (B.getD (327 : Nat) (0 : Int))).isSome, tu, tu, tu, tu, Value.slice a n c, iv (↑n : Int), Value.bool (decide ((↑n : Int) < (32768 : Int))), Value.bool false, Value.slice a n c, iv (↑n : Int), Value.bool false, Value.bool false, tu, Value.tuple #[Value.agg #[iv (lkK xx1.snd (B.getD (327 : Nat) (0 : Int))).mp, iv (lkK xx1.snd (B.getD (327 : Nat) (0 : Int))).bk, Value.slice (lkA xx1.snd (B.getD (327 : Nat) (0 : Int))) (lkK xx1.snd (B.getD (327 : Nat) (0 : Int))).cl.length (lkK xx1.snd (B.getD (327 : Nat) (0 : Int))).cl.length, Value.bool (lkK xx1.snd (B.getD (327 : Nat) (0 : Int))).bt], Value.bool (kdOf (B.getD (327 : Nat) (0 : Int))).isSome], Value.map (some xx1.fst), Value.slice a n c, Value.pointer (some (Addr.mk (blk a) (offA a + (327 : Nat)) none)), uv (B.getD (327 : Nat) (0 : Int)), Value.tuple #[Value.agg #[iv (lkK xx1.snd (B.getD (327 : Nat) (0 : Int))).mp, iv (lkK xx1.snd (B.getD (327 : Nat) (0 : Int))).bk, Value.slice (lkA xx1.snd (B.getD (327 : Nat) (0 : Int))) (lkK xx1.snd (B.getD (327 : Nat) (0 : Int))).cl.length (lkK xx1.snd (B.getD (327 : Nat) (0 : Int))).cl.length, Value.bool (lkK xx1.snd (B.getD (327 : Nat) (0 : Int))).bt], Value.bool (kdOf (B.getD (327 : Nat) (0 : Int))).isSome], Value.agg #[iv (lkK xx1.snd (B.getD (327 : Nat) (0 : Int))).mp, iv (lkK xx1.snd (B.getD (327 : Nat) (0 : Int))).bk, Value.slice (lkA xx1.snd (B.getD (327 : Nat) (0 : Int))) (lkK xx1.snd (B.getD (327 : Nat) (0 : Int))).cl.length (lkK xx1.snd (B.getD (327 : Nat) (0 : Int))).cl.length, Value.bool (lkK xx1.snd (B.getD (327 : Nat) (0 : Int))).bt], Value.bool (kdOf (B.getD (327 : Nat) (0 : Int))).isSome, tu, tu, tu, tu, tu, tu, tu, tu, tu, tu, tu, tu, tu, tu, tu, tu, tu, tu, tu, tu, tu, tu, tu, tu, tu, tu, tu, tu, tu, tu, tu, tu, tu, tu, tu, tu, tu, tu, tu, tu, tu, tu, tu, tu, tu, tu, tu, tu, tu, tu, tu, tu, tu, tu, tu, tu, tu, tu, tu, tu, tu, tu, tu, tu, tu, tu, tu, tu, tu, tu, tu, tu, tu, tu, tu, tu, tu, tu] : List Value).getD j9 undef) ?_))
    · rfl
    · trivial
    (focus
      refine Xg.at_keep [1, 2, 0, 3, 4] (by kernel_rfl) ?_
      refine Xg.At.same (by kernel_rfl) ?_ (hk (((xx1.1, xx1.2, xb2)), fun j9 => ([Value.slice a n c, tu, pv xb1 0, iv 0, pv xb2 0, Value.bool (kdOf (B.getD (327 : Nat) (0 : Int))).isSome, tu, tu, tu, tu, Value.slice a n c, iv (↑n : Int), Value.bool (decide ((↑n : Int) < (32768 : Int))), Value.bool false, Value.slice a n c, iv (↑n : Int), Value.bool false, Value.bool false, tu, Value.tuple #[Value.agg #[iv (lkK xx1.snd (B.getD (327 : Nat) (0 : Int))).mp, iv (lkK xx1.snd (B.getD (327 : Nat) (0 : Int))).bk, Value.slice (lkA xx1.snd (B.getD (327 : Nat) (0 : Int))) (lkK xx1.snd (B.getD (327 : Nat) (0 : Int))).cl.length (lkK xx1.snd (B.getD (327 : Nat) (0 : Int))).cl.length, Value.bool (lkK xx1.snd (B.getD (327 : Nat) (0 : Int))).bt], Value.bool (kdOf (B.getD (327 : Nat) (0 : Int))).isSome], Value.map (some xx1.fst), Value.slice a n c, Value.pointer (some (Addr.mk (blk a) (offA a + (327 : Nat)) none)), uv (B.getD (327 : Nat) (0 : Int)), Value.tuple #[Value.agg #[iv (lkK xx1.snd (B.getD (327 : Nat) (0 : Int))).mp, iv (lkK xx1.snd (B.getD (327 : Nat) (0 : Int))).bk, Value.slice (lkA xx1.snd (B.getD (327 : Nat) (0 : Int))) (lkK xx1.snd (B.getD (327 : Nat) (0 : Int))).cl.length (lkK xx1.snd (B.getD (327 : Nat) (0 : Int))).cl.length, Value.bool (lkK xx1.snd (B.getD (327 : Nat) (0 : Int))).bt], Value.bool (kdOf (B.getD (327 : Nat) (0 : Int))).isSome], Value.agg #[iv (lkK xx1.snd (B.getD (327 : Nat) (0 : Int))).mp, iv (lkK xx1.snd (B.getD (327 : Nat) (0 : Int))).bk, Value.slice (lkA xx1.snd (B.getD (327 : Nat) (0 : Int))) (lkK xx1.snd (B.getD (327 : Nat) (0 : Int))).cl.length (lkK xx1.snd (B.getD (327 : Nat) (0 : Int))).cl.length, Value.bool (lkK xx1.snd (B.getD (327 : Nat) (0 : Int))).bt], Value.bool (kdOf (B.getD (327 : Nat) (0 : Int))).isSome, tu, tu, tu, tu, tu, tu, tu, tu, tu, tu, tu, tu, tu, tu, tu, tu, tu, tu, tu, tu, tu, tu, tu, tu, tu, tu, tu, tu, tu, tu, tu, tu, tu, tu, tu, tu, tu, tu, tu, tu, tu, tu, tu, tu, tu, tu, tu, tu, tu, tu, tu, tu, tu, tu, tu, tu, tu, tu, tu, tu, tu, tu, tu, tu, tu, tu, tu, tu, tu, tu, tu, tu, tu, tu, tu, tu, tu, tu] : List Value).getD j9 undef) ?_))
    · rfl
    · trivial
  rintro ⟨⟨mb, A2, rb⟩, J⟩ h
  obtain ⟨-, -, hk3, hk4, hk5, hk6, hk7, hk8, hk9⟩ := lk_spec A2 (B.getD 327 0)
  dsimp only
  generalize lkK A2 (B.getD 327 0) = k at *
  generalize lkA A2 (B.getD 327 0) = ka at *
  (focus
    refine Xg.At.same (T' := [Value.slice a n c, tu, pv xb1 0, iv 0, pv rb 0, Value.bool (kdOf (B.getD (327 : Nat) (0 : Int))).isSome, tu, tu, tu, tu, Value.slice a n c, iv (↑n : Int), Value.bool (decide ((↑n : Int) < (32768 : Int))), Value.bool false, Value.slice a n c, iv (↑n : Int), Value.bool false, Value.bool false, tu, J (19 : Nat), J (20 : Nat), J (21 : Nat), J (22 : Nat), J (23 : Nat), J (24 : Nat), J (25 : Nat), J (26 : Nat), tu, tu, tu, tu, tu, tu, tu, tu, tu, tu, tu, tu, tu, tu, tu, tu, tu, tu, tu, tu, tu, tu, tu, tu, tu, tu, tu, tu, tu, tu, tu, tu, tu, tu, tu, tu, tu, tu, tu, tu, tu, tu, tu, tu, tu, tu, tu, tu, tu, tu, tu, tu, tu, tu, tu, tu, tu, tu, tu, tu, tu, tu, tu, tu, tu, tu, tu, tu, tu, tu, tu, tu, tu, tu, tu, tu, tu, tu]) (L' := [mp mb IntKind.u8 (typL A2), typS A2, row rb (48 : TypeId) [iv k.mp, iv k.bk, Value.slice ka k.cl.length k.cl.length, Value.bool k.bt], row xb1 (29 : TypeId) [Value.string (St []), iv 0, iv 0, iv 0, iv 0, Value.bool false], A]) (by kernel_rfl) rfl ?_)
  by_cases h1 : mkdB B = false
  · rw [h1] at hmk
    rw [if_pos h1] at hck
    rw [hck]
    (focus
      refine Xg.at_seq ?_
      refine Xg.at_draw [] [(1, [0, 1, 4, 5, 6, 7], (RdIs (1 : Nat) (Value.slice a n c) n (List.map (Value.int IntKind.u8) B))), (2, [0, 1, 2, 4, 5, 6, 7], (RdIs (1 : Nat) (Value.slice a n c) n (List.map (Value.int IntKind.u8) B))), (5, [0, 1, 2, 3, 4, 5, 8], (RdIs (1 : Nat) (Value.slice a n c) n (List.map (Value.int IntKind.u8) B))), (6, [0, 1, 2, 3, 4, 5, 6, 8], (RdIs (1 : Nat) (Value.slice a n c) n (List.map (Value.int IntKind.u8) B)))] (by kernel_rfl) ?_
      refine Xg.any_pure ((Value.slice a n c)) 0 (by kernel_rfl) rfl (by kernel_rfl) (by kernel_rfl) (by kernel_rfl) (by kernel_rfl) rfl (fun _ => by kernel_rfl) ?_
      refine Xg.any_reads (.pointer (some (Addr.mk (Xg.blk a) (offA a + (328 : Nat)) none))) 1 0 (by kernel_rfl) rfl (by kernel_rfl) (by kernel_rfl) (by kernel_rfl) (by kernel_rfl) rfl rfl (by kernel_rfl) (Xg.rd_now 4 hR (by kernel_rfl)) (Xg.run_ix_rd (elem := 5) (kd := .i64) (e := ((328 : Int))) 1 ((328 : Nat)) (offA a + (328 : Nat)) (by kernel_rfl) (by kernel_rfl) (by kernel_rfl) (by kernel_rfl) rfl (by omega) (by simp only [List.length_map]; omega) (by omega)) ?_
      refine Xg.any_reads (uv (B.getD (328 : Nat) (0 : Int))) 2 1 (by kernel_rfl) rfl (by kernel_rfl) (by kernel_rfl) (by kernel_rfl) (by kernel_rfl) rfl rfl (by kernel_rfl) (Xg.rd_now 4 hR (by kernel_rfl)) (Xg.run_load_rd (off0 := (offA a + (328 : Nat))) ((328 : Nat)) (by kernel_rfl) (by omega) (Xg.get_ints (by omega)) (by kernel_rfl)) ?_
      refine Xg.any_int .i64 (IntKind.wrap .i64 ((B.getD (328 : Nat) (0 : Int)))) 3 (by kernel_rfl) rfl (by kernel_rfl) (by kernel_rfl) (by kernel_rfl) (by kernel_rfl) rfl (fun _ => by kernel_rfl) (Xg.wrap_i64_in (by omega)) ?_
      refine Xg.any_pure ((Value.slice a n c)) 4 (by kernel_rfl) rfl (by kernel_rfl) (by kernel_rfl) (by kernel_rfl) (by kernel_rfl) rfl (fun _ => by kernel_rfl) ?_
      refine Xg.any_reads (.pointer (some (Addr.mk (Xg.blk a) (offA a + (329 : Nat)) none))) 5 2 (by kernel_rfl) rfl (by kernel_rfl) (by kernel_rfl) (by kernel_rfl) (by kernel_rfl) rfl rfl (by kernel_rfl) (Xg.rd_now 4 hR (by kernel_rfl)) (Xg.run_ix_rd (elem := 5) (kd := .i64) (e := ((329 : Int))) 1 ((329 : Nat)) (offA a + (329 : Nat)) (by kernel_rfl) (by kernel_rfl) (by kernel_rfl) (by kernel_rfl) rfl (by omega) (by simp only [List.length_map]; omega) (by omega)) ?_
      refine Xg.any_reads (uv (B.getD (329 : Nat) (0 : Int))) 6 3 (by kernel_rfl) rfl (by kernel_rfl) (by kernel_rfl) (by kernel_rfl) (by kernel_rfl) rfl rfl (by kernel_rfl) (Xg.rd_now 4 hR (by kernel_rfl)) (Xg.run_load_rd (off0 := (offA a + (329 : Nat))) ((329 : Nat)) (by kernel_rfl) (by omega) (Xg.get_ints (by omega)) (by kernel_rfl)) ?_
      refine Xg.any_int .i64 (IntKind.wrap .i64 ((B.getD (329 : Nat) (0 : Int)))) 7 (by kernel_rfl) rfl (by kernel_rfl) (by kernel_rfl) (by kernel_rfl) (by kernel_rfl) rfl (fun _ => by kernel_rfl) (Xg.wrap_i64_in (by omega)) ?_
      refine Xg.any_pure ((iv (B.getD (328 : Nat) (0 : Int)))) 8 (by kernel_rfl) rfl (by kernel_rfl) (by kernel_rfl) (by kernel_rfl) (by kernel_rfl) rfl (fun _ => by kernel_rfl) ?_
      refine Xg.any_pure ((iv (B.getD (329 : Nat) (0 : Int)))) 9 (by kernel_rfl) rfl (by kernel_rfl) (by kernel_rfl) (by kernel_rfl) (by kernel_rfl) rfl (fun _ => by kernel_rfl) ?_
      refine Xg.any_nil (by kernel_rfl) ?_
      refine Xg.at_seq ?_
      refine Xg.at_region ?_
      refine Xg.ops_op (by kernel_rfl) (Xg.opx_pure ((iv 0)) rfl (fun _ => by kernel_rfl) ?_)
      refine Xg.ops_nil ?_
      refine Xg.at_seq ?_
      refine Xg.at_block ?_
      refine Xg.at_seq ?_
      refine Xg.at_region ?_
      refine Xg.ops_op (by kernel_rfl) (Xg.opx_pure ((Value.slice a n c)) rfl (fun _ => by kernel_rfl) ?_)
      refine Xg.ops_op (by kernel_rfl) (Xg.opx_call1' [4] [A, mp mb IntKind.u8 (typL A2), typS A2, row rb (48 : TypeId) [iv k.mp, iv k.bk, Value.slice ka k.cl.length k.cl.length, Value.bool k.bt], row xb1 (29 : TypeId) [Value.string (St []), iv 0, iv 0, iv 0, iv 0, Value.bool false]] (fun _ => by kernel_rfl) (@hmk ) (by kernel_rfl) (by kernel_rfl) (by kernel_rfl) ?_)
      refine Xg.ops_op (by kernel_rfl) (Xg.opx_pure (.bool true) rfl (fun _ => by kernel_rfl) ?_)
      refine Xg.ops_op (by kernel_rfl) (Xg.opx_pure ((Value.bool true)) rfl (fun _ => by kernel_rfl) ?_)
      refine Xg.ops_nil ?_
      refine Xg.at_true (t := true) (by kernel_rfl) rfl ?_
      refine Xg.at_region ?_
      refine Xg.ops_op (by kernel_rfl) (Xg.opx_pure ((iv 42)) rfl (fun _ => by kernel_rfl) ?_)
      refine Xg.ops_nil ?_
      refine Xg.at_inBlock ?_
      refine Xg.at_seq ?_
      refine Xg.at_seq ?_
      refine Xg.at_region ?_
      refine Xg.ops_op (by kernel_rfl) (Xg.opx_pure ((iv 42)) rfl (fun _ => by kernel_rfl) ?_)
      refine Xg.ops_op (by kernel_rfl) (Xg.opx_pure ((Value.bool true)) rfl (fun _ => by kernel_rfl) ?_)
      refine Xg.ops_nil ?_
      refine Xg.at_true (t := true) (by kernel_rfl) rfl ?_
      refine Xg.at_seq ?_
      refine Xg.at_region ?_
      refine Xg.ops_op (by kernel_rfl) (Xg.opx_pure ((Value.agg #[Value.string (ByteArray.mk #[]), iv 0, iv 0, iv 0, iv 0, Value.bool false])) rfl (fun _ => by kernel_rfl) ?_)
      refine Xg.ops_op (by kernel_rfl) (Xg.opx_pure ((iv 42)) rfl (fun _ => by kernel_rfl) ?_)
      refine Xg.ops_op (by kernel_rfl) (Xg.opx_storen 6 (off := 0) 4 [Value.string (ByteArray.mk #[]), iv 0, iv 0, iv 0, iv 0, Value.bool false] (by kernel_rfl) rfl (by kernel_rfl) (by kernel_rfl) rfl (by kernel_rfl) (Nat.le_of_ble_eq_true (by kernel_rfl)) ?_)
      refine Xg.ops_op (by kernel_rfl) (Xg.opx_pure ((iv 42)) rfl (fun _ => by kernel_rfl) ?_)
      refine Xg.ops_nil ?_
      refine Xg.at_ret_feed (v := (Value.tuple #[Value.agg #[Value.string (ByteArray.mk #[]), iv 0, iv 0, iv 0, iv 0, Value.bool false], iv 42])) [(Addr.mk xb1 (0 : Nat) none), (Addr.mk xb1 (1 : Nat) none), (Addr.mk xb1 (2 : Nat) none), (Addr.mk xb1 (3 : Nat) none), (Addr.mk xb1 (4 : Nat) none), (Addr.mk xb1 (5 : Nat) none)] [Value.string (ByteArray.mk #[]), iv 0, iv 0, iv 0, iv 0, Value.bool false] [0] [A] Go.Proofs.Tryd.func9 (by kernel_rfl) (Xg.cells_cons (b := xb1) (off := 0) 4 rfl (by kernel_rfl) (Xg.cells_cons (b := xb1) (off := 1) 4 rfl (by kernel_rfl) (Xg.cells_cons (b := xb1) (off := 2) 4 rfl (by kernel_rfl) (Xg.cells_cons (b := xb1) (off := 3) 4 rfl (by kernel_rfl) (Xg.cells_cons (b := xb1) (off := 4) 4 rfl (by kernel_rfl) (Xg.cells_cons (b := xb1) (off := 5) 4 rfl (by kernel_rfl) Xg.cells_nil)))))) (by kernel_rfl) (by kernel_rfl) ?_
      exact ⟨by kernel_rfl, by kernel_rfl⟩)
  rw [if_neg h1] at hck
  rw [show mkdB B = true by simpa using h1] at hmk
  by_cases h2 : (231 - hsum B 25) % 256 ≠ B.getD 333 0
  · rw [if_pos h2] at hck
    rw [hck]
    (focus
      refine Xg.at_seq ?_
      refine Xg.at_draw [] [(1, [0, 1, 4, 5, 6, 7], (RdIs (1 : Nat) (Value.slice a n c) n (List.map (Value.int IntKind.u8) B))), (2, [0, 1, 2, 4, 5, 6, 7], (RdIs (1 : Nat) (Value.slice a n c) n (List.map (Value.int IntKind.u8) B))), (5, [0, 1, 2, 3, 4, 5, 8], (RdIs (1 : Nat) (Value.slice a n c) n (List.map (Value.int IntKind.u8) B))), (6, [0, 1, 2, 3, 4, 5, 6, 8], (RdIs (1 : Nat) (Value.slice a n c) n (List.map (Value.int IntKind.u8) B)))] (by kernel_rfl) ?_
      refine Xg.any_pure ((Value.slice a n c)) 0 (by kernel_rfl) rfl (by kernel_rfl) (by kernel_rfl) (by kernel_rfl) (by kernel_rfl) rfl (fun _ => by kernel_rfl) ?_
      refine Xg.any_reads (.pointer (some (Addr.mk (Xg.blk a) (offA a + (328 : Nat)) none))) 1 0 (by kernel_rfl) rfl (by kernel_rfl) (by kernel_rfl) (by kernel_rfl) (by kernel_rfl) rfl rfl (by kernel_rfl) (Xg.rd_now 4 hR (by kernel_rfl)) (Xg.run_ix_rd (elem := 5) (kd := .i64) (e := ((328 : Int))) 1 ((328 : Nat)) (offA a + (328 : Nat)) (by kernel_rfl) (by kernel_rfl) (by kernel_rfl) (by kernel_rfl) rfl (by omega) (by simp only [List.length_map]; omega) (by omega)) ?_
      refine Xg.any_reads (uv (B.getD (328 : Nat) (0 : Int))) 2 1 (by kernel_rfl) rfl (by kernel_rfl) (by kernel_rfl) (by kernel_rfl) (by kernel_rfl) rfl rfl (by kernel_rfl) (Xg.rd_now 4 hR (by kernel_rfl)) (Xg.run_load_rd (off0 := (offA a + (328 : Nat))) ((328 : Nat)) (by kernel_rfl) (by omega) (Xg.get_ints (by omega)) (by kernel_rfl)) ?_
      refine Xg.any_int .i64 (IntKind.wrap .i64 ((B.getD (328 : Nat) (0 : Int)))) 3 (by kernel_rfl) rfl (by kernel_rfl) (by kernel_rfl) (by kernel_rfl) (by kernel_rfl) rfl (fun _ => by kernel_rfl) (Xg.wrap_i64_in (by omega)) ?_
      refine Xg.any_pure ((Value.slice a n c)) 4 (by kernel_rfl) rfl (by kernel_rfl) (by kernel_rfl) (by kernel_rfl) (by kernel_rfl) rfl (fun _ => by kernel_rfl) ?_
      refine Xg.any_reads (.pointer (some (Addr.mk (Xg.blk a) (offA a + (329 : Nat)) none))) 5 2 (by kernel_rfl) rfl (by kernel_rfl) (by kernel_rfl) (by kernel_rfl) (by kernel_rfl) rfl rfl (by kernel_rfl) (Xg.rd_now 4 hR (by kernel_rfl)) (Xg.run_ix_rd (elem := 5) (kd := .i64) (e := ((329 : Int))) 1 ((329 : Nat)) (offA a + (329 : Nat)) (by kernel_rfl) (by kernel_rfl) (by kernel_rfl) (by kernel_rfl) rfl (by omega) (by simp only [List.length_map]; omega) (by omega)) ?_
      refine Xg.any_reads (uv (B.getD (329 : Nat) (0 : Int))) 6 3 (by kernel_rfl) rfl (by kernel_rfl) (by kernel_rfl) (by kernel_rfl) (by kernel_rfl) rfl rfl (by kernel_rfl) (Xg.rd_now 4 hR (by kernel_rfl)) (Xg.run_load_rd (off0 := (offA a + (329 : Nat))) ((329 : Nat)) (by kernel_rfl) (by omega) (Xg.get_ints (by omega)) (by kernel_rfl)) ?_
      refine Xg.any_int .i64 (IntKind.wrap .i64 ((B.getD (329 : Nat) (0 : Int)))) 7 (by kernel_rfl) rfl (by kernel_rfl) (by kernel_rfl) (by kernel_rfl) (by kernel_rfl) rfl (fun _ => by kernel_rfl) (Xg.wrap_i64_in (by omega)) ?_
      refine Xg.any_pure ((iv (B.getD (328 : Nat) (0 : Int)))) 8 (by kernel_rfl) rfl (by kernel_rfl) (by kernel_rfl) (by kernel_rfl) (by kernel_rfl) rfl (fun _ => by kernel_rfl) ?_
      refine Xg.any_pure ((iv (B.getD (329 : Nat) (0 : Int)))) 9 (by kernel_rfl) rfl (by kernel_rfl) (by kernel_rfl) (by kernel_rfl) (by kernel_rfl) rfl (fun _ => by kernel_rfl) ?_
      refine Xg.any_nil (by kernel_rfl) ?_
      refine Xg.at_seq ?_
      refine Xg.at_region ?_
      refine Xg.ops_op (by kernel_rfl) (Xg.opx_pure ((iv 0)) rfl (fun _ => by kernel_rfl) ?_)
      refine Xg.ops_nil ?_
      refine Xg.at_seq ?_
      refine Xg.at_block ?_
      refine Xg.at_seq ?_
      refine Xg.at_region ?_
      refine Xg.ops_op (by kernel_rfl) (Xg.opx_pure ((Value.slice a n c)) rfl (fun _ => by kernel_rfl) ?_)
      refine Xg.ops_op (by kernel_rfl) (Xg.opx_call1' [4] [A, mp mb IntKind.u8 (typL A2), typS A2, row rb (48 : TypeId) [iv k.mp, iv k.bk, Value.slice ka k.cl.length k.cl.length, Value.bool k.bt], row xb1 (29 : TypeId) [Value.string (St []), iv 0, iv 0, iv 0, iv 0, Value.bool false]] (fun _ => by kernel_rfl) (@hmk ) (by kernel_rfl) (by kernel_rfl) (by kernel_rfl) ?_)
      refine Xg.ops_op (by kernel_rfl) (Xg.opx_pure (.bool false) rfl (fun _ => by kernel_rfl) ?_)
      refine Xg.ops_op (by kernel_rfl) (Xg.opx_pure ((Value.bool false)) rfl (fun _ => by kernel_rfl) ?_)
      refine Xg.ops_nil ?_
      refine Xg.at_false (t := false) (by kernel_rfl) rfl ?_
      refine Xg.at_seq ?_
      refine Xg.at_draw [1] [(3, [0, 1, 2, 3], (RdIs (1 : Nat) (Value.slice a n c) n (List.map (Value.int IntKind.u8) B))), (4, [0, 1, 2, 3, 4], (RdIs (1 : Nat) (Value.slice a n c) n (List.map (Value.int IntKind.u8) B)))] (by kernel_rfl) ?_
      refine Xg.any_pure ((Value.slice a n c)) 0 (by kernel_rfl) rfl (by kernel_rfl) (by kernel_rfl) (by kernel_rfl) (by kernel_rfl) rfl (fun _ => by kernel_rfl) ?_
      refine Xg.any_pure ((Value.slice a n c)) 2 (by kernel_rfl) rfl (by kernel_rfl) (by kernel_rfl) (by kernel_rfl) (by kernel_rfl) rfl (fun _ => by kernel_rfl) ?_
      refine Xg.any_reads (.pointer (some (Addr.mk (Xg.blk a) (offA a + (333 : Nat)) none))) 3 0 (by kernel_rfl) rfl (by kernel_rfl) (by kernel_rfl) (by kernel_rfl) (by kernel_rfl) rfl rfl (by kernel_rfl) (Xg.rd_now 0 hR (by kernel_rfl)) (Xg.run_ix_rd (elem := 5) (kd := .i64) (e := ((333 : Int))) 1 ((333 : Nat)) (offA a + (333 : Nat)) (by kernel_rfl) (by kernel_rfl) (by kernel_rfl) (by kernel_rfl) rfl (by omega) (by simp only [List.length_map]; omega) (by omega)) ?_
      refine Xg.any_reads (uv (B.getD (333 : Nat) (0 : Int))) 4 1 (by kernel_rfl) rfl (by kernel_rfl) (by kernel_rfl) (by kernel_rfl) (by kernel_rfl) rfl rfl (by kernel_rfl) (Xg.rd_now 0 hR (by kernel_rfl)) (Xg.run_load_rd (off0 := (offA a + (333 : Nat))) ((333 : Nat)) (by kernel_rfl) (by omega) (Xg.get_ints (by omega)) (by kernel_rfl)) ?_
      refine Xg.any_each [1] (by kernel_rfl) rfl ⟨?_, trivial⟩
      refine Xg.comes_act rfl (by kernel_rfl) (by kernel_rfl) (Xg.opx_call1' [0] [A, mp mb IntKind.u8 (typL A2), typS A2, row rb (48 : TypeId) [iv k.mp, iv k.bk, Value.slice ka k.cl.length k.cl.length, Value.bool k.bt], row xb1 (29 : TypeId) [Value.string (St []), iv 0, iv 0, iv 0, iv 0, Value.bool false]] (fun _ => by kernel_rfl) (@hsm ) (by kernel_rfl) (by kernel_rfl) (by kernel_rfl) ?_)
      refine Xg.acts (Xg.owes_rd 0 hR (by kernel_rfl) (Xg.owes_rd 0 hR (by kernel_rfl) Xg.owes_nil)) ?_
      refine Xg.any_pure (.bool (!decide (((((231 : Int) - hsum B (25 : Nat)) % (256 : Int)) : Int) = (B.getD (333 : Nat) (0 : Int))))) 5 (by kernel_rfl) rfl (by kernel_rfl) (by kernel_rfl) (by kernel_rfl) (by kernel_rfl) rfl (fun _ => by kernel_rfl) ?_
      refine Xg.any_pure ((Value.bool !decide (((231 : Int) - hsum B (25 : Nat)) % (256 : Int) = B.getD (333 : Nat) (0 : Int)))) 6 (by kernel_rfl) rfl (by kernel_rfl) (by kernel_rfl) (by kernel_rfl) (by kernel_rfl) rfl (fun _ => by kernel_rfl) ?_
      refine Xg.any_nil (by kernel_rfl) ?_
      refine Xg.at_true (t := !decide ((((231 : Int) - hsum B (25 : Nat)) % (256 : Int) = B.getD (333 : Nat) (0 : Int)))) (by kernel_rfl) (by rw [decide_eq_false (by omega)]; rfl) ?_
      refine Xg.at_region ?_
      refine Xg.ops_op (by kernel_rfl) (Xg.opx_pure ((iv 43)) rfl (fun _ => by kernel_rfl) ?_)
      refine Xg.ops_nil ?_
      refine Xg.at_inBlock ?_
      refine Xg.at_seq ?_
      refine Xg.at_seq ?_
      refine Xg.at_region ?_
      refine Xg.ops_op (by kernel_rfl) (Xg.opx_pure ((iv 43)) rfl (fun _ => by kernel_rfl) ?_)
      refine Xg.ops_op (by kernel_rfl) (Xg.opx_pure ((Value.bool true)) rfl (fun _ => by kernel_rfl) ?_)
      refine Xg.ops_nil ?_
      refine Xg.at_true (t := true) (by kernel_rfl) rfl ?_
      refine Xg.at_seq ?_
      refine Xg.at_region ?_
      refine Xg.ops_op (by kernel_rfl) (Xg.opx_pure ((Value.agg #[Value.string (ByteArray.mk #[]), iv 0, iv 0, iv 0, iv 0, Value.bool false])) rfl (fun _ => by kernel_rfl) ?_)
      refine Xg.ops_op (by kernel_rfl) (Xg.opx_pure ((iv 43)) rfl (fun _ => by kernel_rfl) ?_)
      refine Xg.ops_op (by kernel_rfl) (Xg.opx_storen 6 (off := 0) 4 [Value.string (ByteArray.mk #[]), iv 0, iv 0, iv 0, iv 0, Value.bool false] (by kernel_rfl) rfl (by kernel_rfl) (by kernel_rfl) rfl (by kernel_rfl) (Nat.le_of_ble_eq_true (by kernel_rfl)) ?_)
      refine Xg.ops_op (by kernel_rfl) (Xg.opx_pure ((iv 43)) rfl (fun _ => by kernel_rfl) ?_)
      refine Xg.ops_nil ?_
      refine Xg.at_ret_feed (v := (Value.tuple #[Value.agg #[Value.string (ByteArray.mk #[]), iv 0, iv 0, iv 0, iv 0, Value.bool false], iv 43])) [(Addr.mk xb1 (0 : Nat) none), (Addr.mk xb1 (1 : Nat) none), (Addr.mk xb1 (2 : Nat) none), (Addr.mk xb1 (3 : Nat) none), (Addr.mk xb1 (4 : Nat) none), (Addr.mk xb1 (5 : Nat) none)] [Value.string (ByteArray.mk #[]), iv 0, iv 0, iv 0, iv 0, Value.bool false] [0] [A] Go.Proofs.Tryd.func9 (by kernel_rfl) (Xg.cells_cons (b := xb1) (off := 0) 4 rfl (by kernel_rfl) (Xg.cells_cons (b := xb1) (off := 1) 4 rfl (by kernel_rfl) (Xg.cells_cons (b := xb1) (off := 2) 4 rfl (by kernel_rfl) (Xg.cells_cons (b := xb1) (off := 3) 4 rfl (by kernel_rfl) (Xg.cells_cons (b := xb1) (off := 4) 4 rfl (by kernel_rfl) (Xg.cells_cons (b := xb1) (off := 5) 4 rfl (by kernel_rfl) Xg.cells_nil)))))) (by kernel_rfl) (by kernel_rfl) ?_
      exact ⟨by kernel_rfl, by kernel_rfl⟩)
  rw [if_neg h2] at hck
  by_cases h3 : B.getD 323 0 = 192
  · rw [if_pos h3] at hck
    rw [hck]
    (focus
      refine Xg.at_seq ?_
      refine Xg.at_draw [] [(1, [0, 1, 4, 5, 6, 7], (RdIs (1 : Nat) (Value.slice a n c) n (List.map (Value.int IntKind.u8) B))), (2, [0, 1, 2, 4, 5, 6, 7], (RdIs (1 : Nat) (Value.slice a n c) n (List.map (Value.int IntKind.u8) B))), (5, [0, 1, 2, 3, 4, 5, 8], (RdIs (1 : Nat) (Value.slice a n c) n (List.map (Value.int IntKind.u8) B))), (6, [0, 1, 2, 3, 4, 5, 6, 8], (RdIs (1 : Nat) (Value.slice a n c) n (List.map (Value.int IntKind.u8) B)))] (by kernel_rfl) ?_
      refine Xg.any_pure ((Value.slice a n c)) 0 (by kernel_rfl) rfl (by kernel_rfl) (by kernel_rfl) (by kernel_rfl) (by kernel_rfl) rfl (fun _ => by kernel_rfl) ?_
      refine Xg.any_reads (.pointer (some (Addr.mk (Xg.blk a) (offA a + (328 : Nat)) none))) 1 0 (by kernel_rfl) rfl (by kernel_rfl) (by kernel_rfl) (by kernel_rfl) (by kernel_rfl) rfl rfl (by kernel_rfl) (Xg.rd_now 4 hR (by kernel_rfl)) (Xg.run_ix_rd (elem := 5) (kd := .i64) (e := ((328 : Int))) 1 ((328 : Nat)) (offA a + (328 : Nat)) (by kernel_rfl) (by kernel_rfl) (by kernel_rfl) (by kernel_rfl) rfl (by omega) (by simp only [List.length_map]; omega) (by omega)) ?_
      refine Xg.any_reads (uv (B.getD (328 : Nat) (0 : Int))) 2 1 (by kernel_rfl) rfl (by kernel_rfl) (by kernel_rfl) (by kernel_rfl) (by kernel_rfl) rfl rfl (by kernel_rfl) (Xg.rd_now 4 hR (by kernel_rfl)) (Xg.run_load_rd (off0 := (offA a + (328 : Nat))) ((328 : Nat)) (by kernel_rfl) (by omega) (Xg.get_ints (by omega)) (by kernel_rfl)) ?_
      refine Xg.any_int .i64 (IntKind.wrap .i64 ((B.getD (328 : Nat) (0 : Int)))) 3 (by kernel_rfl) rfl (by kernel_rfl) (by kernel_rfl) (by kernel_rfl) (by kernel_rfl) rfl (fun _ => by kernel_rfl) (Xg.wrap_i64_in (by omega)) ?_
      refine Xg.any_pure ((Value.slice a n c)) 4 (by kernel_rfl) rfl (by kernel_rfl) (by kernel_rfl) (by kernel_rfl) (by kernel_rfl) rfl (fun _ => by kernel_rfl) ?_
      refine Xg.any_reads (.pointer (some (Addr.mk (Xg.blk a) (offA a + (329 : Nat)) none))) 5 2 (by kernel_rfl) rfl (by kernel_rfl) (by kernel_rfl) (by kernel_rfl) (by kernel_rfl) rfl rfl (by kernel_rfl) (Xg.rd_now 4 hR (by kernel_rfl)) (Xg.run_ix_rd (elem := 5) (kd := .i64) (e := ((329 : Int))) 1 ((329 : Nat)) (offA a + (329 : Nat)) (by kernel_rfl) (by kernel_rfl) (by kernel_rfl) (by kernel_rfl) rfl (by omega) (by simp only [List.length_map]; omega) (by omega)) ?_
      refine Xg.any_reads (uv (B.getD (329 : Nat) (0 : Int))) 6 3 (by kernel_rfl) rfl (by kernel_rfl) (by kernel_rfl) (by kernel_rfl) (by kernel_rfl) rfl rfl (by kernel_rfl) (Xg.rd_now 4 hR (by kernel_rfl)) (Xg.run_load_rd (off0 := (offA a + (329 : Nat))) ((329 : Nat)) (by kernel_rfl) (by omega) (Xg.get_ints (by omega)) (by kernel_rfl)) ?_
      refine Xg.any_int .i64 (IntKind.wrap .i64 ((B.getD (329 : Nat) (0 : Int)))) 7 (by kernel_rfl) rfl (by kernel_rfl) (by kernel_rfl) (by kernel_rfl) (by kernel_rfl) rfl (fun _ => by kernel_rfl) (Xg.wrap_i64_in (by omega)) ?_
      refine Xg.any_pure ((iv (B.getD (328 : Nat) (0 : Int)))) 8 (by kernel_rfl) rfl (by kernel_rfl) (by kernel_rfl) (by kernel_rfl) (by kernel_rfl) rfl (fun _ => by kernel_rfl) ?_
      refine Xg.any_pure ((iv (B.getD (329 : Nat) (0 : Int)))) 9 (by kernel_rfl) rfl (by kernel_rfl) (by kernel_rfl) (by kernel_rfl) (by kernel_rfl) rfl (fun _ => by kernel_rfl) ?_
      refine Xg.any_nil (by kernel_rfl) ?_
      refine Xg.at_seq ?_
      refine Xg.at_region ?_
      refine Xg.ops_op (by kernel_rfl) (Xg.opx_pure ((iv 0)) rfl (fun _ => by kernel_rfl) ?_)
      refine Xg.ops_nil ?_
      refine Xg.at_seq ?_
      refine Xg.at_block ?_
      refine Xg.at_seq ?_
      refine Xg.at_region ?_
      refine Xg.ops_op (by kernel_rfl) (Xg.opx_pure ((Value.slice a n c)) rfl (fun _ => by kernel_rfl) ?_)
      refine Xg.ops_op (by kernel_rfl) (Xg.opx_call1' [4] [A, mp mb IntKind.u8 (typL A2), typS A2, row rb (48 : TypeId) [iv k.mp, iv k.bk, Value.slice ka k.cl.length k.cl.length, Value.bool k.bt], row xb1 (29 : TypeId) [Value.string (St []), iv 0, iv 0, iv 0, iv 0, Value.bool false]] (fun _ => by kernel_rfl) (@hmk ) (by kernel_rfl) (by kernel_rfl) (by kernel_rfl) ?_)
      refine Xg.ops_op (by kernel_rfl) (Xg.opx_pure (.bool false) rfl (fun _ => by kernel_rfl) ?_)
      refine Xg.ops_op (by kernel_rfl) (Xg.opx_pure ((Value.bool false)) rfl (fun _ => by kernel_rfl) ?_)
      refine Xg.ops_nil ?_
      refine Xg.at_false (t := false) (by kernel_rfl) rfl ?_
      refine Xg.at_seq ?_
      refine Xg.at_draw [1] [(3, [0, 1, 2, 3], (RdIs (1 : Nat) (Value.slice a n c) n (List.map (Value.int IntKind.u8) B))), (4, [0, 1, 2, 3, 4], (RdIs (1 : Nat) (Value.slice a n c) n (List.map (Value.int IntKind.u8) B)))] (by kernel_rfl) ?_
      refine Xg.any_pure ((Value.slice a n c)) 0 (by kernel_rfl) rfl (by kernel_rfl) (by kernel_rfl) (by kernel_rfl) (by kernel_rfl) rfl (fun _ => by kernel_rfl) ?_
      refine Xg.any_pure ((Value.slice a n c)) 2 (by kernel_rfl) rfl (by kernel_rfl) (by kernel_rfl) (by kernel_rfl) (by kernel_rfl) rfl (fun _ => by kernel_rfl) ?_
      refine Xg.any_reads (.pointer (some (Addr.mk (Xg.blk a) (offA a + (333 : Nat)) none))) 3 0 (by kernel_rfl) rfl (by kernel_rfl) (by kernel_rfl) (by kernel_rfl) (by kernel_rfl) rfl rfl (by kernel_rfl) (Xg.rd_now 0 hR (by kernel_rfl)) (Xg.run_ix_rd (elem := 5) (kd := .i64) (e := ((333 : Int))) 1 ((333 : Nat)) (offA a + (333 : Nat)) (by kernel_rfl) (by kernel_rfl) (by kernel_rfl) (by kernel_rfl) rfl (by omega) (by simp only [List.length_map]; omega) (by omega)) ?_
      refine Xg.any_reads (uv (B.getD (333 : Nat) (0 : Int))) 4 1 (by kernel_rfl) rfl (by kernel_rfl) (by kernel_rfl) (by kernel_rfl) (by kernel_rfl) rfl rfl (by kernel_rfl) (Xg.rd_now 0 hR (by kernel_rfl)) (Xg.run_load_rd (off0 := (offA a + (333 : Nat))) ((333 : Nat)) (by kernel_rfl) (by omega) (Xg.get_ints (by omega)) (by kernel_rfl)) ?_
      refine Xg.any_each [1] (by kernel_rfl) rfl ⟨?_, trivial⟩
      refine Xg.comes_act rfl (by kernel_rfl) (by kernel_rfl) (Xg.opx_call1' [0] [A, mp mb IntKind.u8 (typL A2), typS A2, row rb (48 : TypeId) [iv k.mp, iv k.bk, Value.slice ka k.cl.length k.cl.length, Value.bool k.bt], row xb1 (29 : TypeId) [Value.string (St []), iv 0, iv 0, iv 0, iv 0, Value.bool false]] (fun _ => by kernel_rfl) (@hsm ) (by kernel_rfl) (by kernel_rfl) (by kernel_rfl) ?_)
      refine Xg.acts (Xg.owes_rd 0 hR (by kernel_rfl) (Xg.owes_rd 0 hR (by kernel_rfl) Xg.owes_nil)) ?_
      refine Xg.any_pure (.bool (!decide (((((231 : Int) - hsum B (25 : Nat)) % (256 : Int)) : Int) = (B.getD (333 : Nat) (0 : Int))))) 5 (by kernel_rfl) rfl (by kernel_rfl) (by kernel_rfl) (by kernel_rfl) (by kernel_rfl) rfl (fun _ => by kernel_rfl) ?_
      refine Xg.any_pure ((Value.bool !decide (((231 : Int) - hsum B (25 : Nat)) % (256 : Int) = B.getD (333 : Nat) (0 : Int)))) 6 (by kernel_rfl) rfl (by kernel_rfl) (by kernel_rfl) (by kernel_rfl) (by kernel_rfl) rfl (fun _ => by kernel_rfl) ?_
      refine Xg.any_nil (by kernel_rfl) ?_
      refine Xg.at_false (t := !decide ((((231 : Int) - hsum B (25 : Nat)) % (256 : Int) = B.getD (333 : Nat) (0 : Int)))) (by kernel_rfl) (by rw [decide_eq_true (by omega)]; rfl) ?_
      refine Xg.at_seq ?_
      refine Xg.at_region ?_
      refine Xg.ops_op (by kernel_rfl) (Xg.opx_pure ((Value.slice a n c)) rfl (fun _ => by kernel_rfl) ?_)
      refine Xg.ops_op (by kernel_rfl) (Xg.opx_rd 0 (.pointer (some (Addr.mk (Xg.blk a) (offA a + (323 : Nat)) none))) rfl hR (by kernel_rfl) (Xg.run_ix_rd (elem := 5) (kd := .i64) (e := ((323 : Int))) 1 ((323 : Nat)) (offA a + (323 : Nat)) (by kernel_rfl) (by kernel_rfl) (by kernel_rfl) (by kernel_rfl) rfl (by omega) (by simp only [List.length_map]; omega) (by omega)) ?_)
      refine Xg.ops_op (by kernel_rfl) (Xg.opx_rd 0 (uv (B.getD (323 : Nat) (0 : Int))) rfl hR (by kernel_rfl) (Xg.run_load_rd (off0 := (offA a + (323 : Nat))) ((323 : Nat)) (by kernel_rfl) (by omega) (Xg.get_ints (by omega)) (by kernel_rfl)) ?_)
      refine Xg.ops_op (by kernel_rfl) (Xg.opx_pure (.bool (decide (((B.getD (323 : Nat) (0 : Int)) : Int) = ((192 : Int))))) rfl (fun _ => by kernel_rfl) ?_)
      refine Xg.ops_op (by kernel_rfl) (Xg.opx_pure ((Value.bool (decide (B.getD (323 : Nat) (0 : Int) = (192 : Int))))) rfl (fun _ => by kernel_rfl) ?_)
      refine Xg.ops_nil ?_
      refine Xg.at_true (t := decide ((B.getD (323 : Nat) (0 : Int) = (192 : Int)))) (by kernel_rfl) (decide_eq_true (by omega)) ?_
      refine Xg.at_region ?_
      refine Xg.ops_op (by kernel_rfl) (Xg.opx_pure ((iv 44)) rfl (fun _ => by kernel_rfl) ?_)
      refine Xg.ops_nil ?_
      refine Xg.at_inBlock ?_
      refine Xg.at_seq ?_
      refine Xg.at_seq ?_
      refine Xg.at_region ?_
      refine Xg.ops_op (by kernel_rfl) (Xg.opx_pure ((iv 44)) rfl (fun _ => by kernel_rfl) ?_)
      refine Xg.ops_op (by kernel_rfl) (Xg.opx_pure ((Value.bool true)) rfl (fun _ => by kernel_rfl) ?_)
      refine Xg.ops_nil ?_
      refine Xg.at_true (t := true) (by kernel_rfl) rfl ?_
      refine Xg.at_seq ?_
      refine Xg.at_region ?_
      refine Xg.ops_op (by kernel_rfl) (Xg.opx_pure ((Value.agg #[Value.string (ByteArray.mk #[]), iv 0, iv 0, iv 0, iv 0, Value.bool false])) rfl (fun _ => by kernel_rfl) ?_)
      refine Xg.ops_op (by kernel_rfl) (Xg.opx_pure ((iv 44)) rfl (fun _ => by kernel_rfl) ?_)
      refine Xg.ops_op (by kernel_rfl) (Xg.opx_storen 6 (off := 0) 4 [Value.string (ByteArray.mk #[]), iv 0, iv 0, iv 0, iv 0, Value.bool false] (by kernel_rfl) rfl (by kernel_rfl) (by kernel_rfl) rfl (by kernel_rfl) (Nat.le_of_ble_eq_true (by kernel_rfl)) ?_)
      refine Xg.ops_op (by kernel_rfl) (Xg.opx_pure ((iv 44)) rfl (fun _ => by kernel_rfl) ?_)
      refine Xg.ops_nil ?_
      refine Xg.at_ret_feed (v := (Value.tuple #[Value.agg #[Value.string (ByteArray.mk #[]), iv 0, iv 0, iv 0, iv 0, Value.bool false], iv 44])) [(Addr.mk xb1 (0 : Nat) none), (Addr.mk xb1 (1 : Nat) none), (Addr.mk xb1 (2 : Nat) none), (Addr.mk xb1 (3 : Nat) none), (Addr.mk xb1 (4 : Nat) none), (Addr.mk xb1 (5 : Nat) none)] [Value.string (ByteArray.mk #[]), iv 0, iv 0, iv 0, iv 0, Value.bool false] [0] [A] Go.Proofs.Tryd.func9 (by kernel_rfl) (Xg.cells_cons (b := xb1) (off := 0) 4 rfl (by kernel_rfl) (Xg.cells_cons (b := xb1) (off := 1) 4 rfl (by kernel_rfl) (Xg.cells_cons (b := xb1) (off := 2) 4 rfl (by kernel_rfl) (Xg.cells_cons (b := xb1) (off := 3) 4 rfl (by kernel_rfl) (Xg.cells_cons (b := xb1) (off := 4) 4 rfl (by kernel_rfl) (Xg.cells_cons (b := xb1) (off := 5) 4 rfl (by kernel_rfl) Xg.cells_nil)))))) (by kernel_rfl) (by kernel_rfl) ?_
      exact ⟨by kernel_rfl, by kernel_rfl⟩)
  rw [if_neg h3] at hck
  cases hkd : kdOf (B.getD 327 0) with
  | none =>
    rw [hkd] at hck
    dsimp only at hck
    rw [hck]
    (focus
      refine Xg.at_seq ?_
      refine Xg.at_draw [] [(1, [0, 1, 4, 5, 6, 7], (RdIs (1 : Nat) (Value.slice a n c) n (List.map (Value.int IntKind.u8) B))), (2, [0, 1, 2, 4, 5, 6, 7], (RdIs (1 : Nat) (Value.slice a n c) n (List.map (Value.int IntKind.u8) B))), (5, [0, 1, 2, 3, 4, 5, 8], (RdIs (1 : Nat) (Value.slice a n c) n (List.map (Value.int IntKind.u8) B))), (6, [0, 1, 2, 3, 4, 5, 6, 8], (RdIs (1 : Nat) (Value.slice a n c) n (List.map (Value.int IntKind.u8) B)))] (by kernel_rfl) ?_
      refine Xg.any_pure ((Value.slice a n c)) 0 (by kernel_rfl) rfl (by kernel_rfl) (by kernel_rfl) (by kernel_rfl) (by kernel_rfl) rfl (fun _ => by kernel_rfl) ?_
      refine Xg.any_reads (.pointer (some (Addr.mk (Xg.blk a) (offA a + (328 : Nat)) none))) 1 0 (by kernel_rfl) rfl (by kernel_rfl) (by kernel_rfl) (by kernel_rfl) (by kernel_rfl) rfl rfl (by kernel_rfl) (Xg.rd_now 4 hR (by kernel_rfl)) (Xg.run_ix_rd (elem := 5) (kd := .i64) (e := ((328 : Int))) 1 ((328 : Nat)) (offA a + (328 : Nat)) (by kernel_rfl) (by kernel_rfl) (by kernel_rfl) (by kernel_rfl) rfl (by omega) (by simp only [List.length_map]; omega) (by omega)) ?_
      refine Xg.any_reads (uv (B.getD (328 : Nat) (0 : Int))) 2 1 (by kernel_rfl) rfl (by kernel_rfl) (by kernel_rfl) (by kernel_rfl) (by kernel_rfl) rfl rfl (by kernel_rfl) (Xg.rd_now 4 hR (by kernel_rfl)) (Xg.run_load_rd (off0 := (offA a + (328 : Nat))) ((328 : Nat)) (by kernel_rfl) (by omega) (Xg.get_ints (by omega)) (by kernel_rfl)) ?_
      refine Xg.any_int .i64 (IntKind.wrap .i64 ((B.getD (328 : Nat) (0 : Int)))) 3 (by kernel_rfl) rfl (by kernel_rfl) (by kernel_rfl) (by kernel_rfl) (by kernel_rfl) rfl (fun _ => by kernel_rfl) (Xg.wrap_i64_in (by omega)) ?_
      refine Xg.any_pure ((Value.slice a n c)) 4 (by kernel_rfl) rfl (by kernel_rfl) (by kernel_rfl) (by kernel_rfl) (by kernel_rfl) rfl (fun _ => by kernel_rfl) ?_
      refine Xg.any_reads (.pointer (some (Addr.mk (Xg.blk a) (offA a + (329 : Nat)) none))) 5 2 (by kernel_rfl) rfl (by kernel_rfl) (by kernel_rfl) (by kernel_rfl) (by kernel_rfl) rfl rfl (by kernel_rfl) (Xg.rd_now 4 hR (by kernel_rfl)) (Xg.run_ix_rd (elem := 5) (kd := .i64) (e := ((329 : Int))) 1 ((329 : Nat)) (offA a + (329 : Nat)) (by kernel_rfl) (by kernel_rfl) (by kernel_rfl) (by kernel_rfl) rfl (by omega) (by simp only [List.length_map]; omega) (by omega)) ?_
      refine Xg.any_reads (uv (B.getD (329 : Nat) (0 : Int))) 6 3 (by kernel_rfl) rfl (by kernel_rfl) (by kernel_rfl) (by kernel_rfl) (by kernel_rfl) rfl rfl (by kernel_rfl) (Xg.rd_now 4 hR (by kernel_rfl)) (Xg.run_load_rd (off0 := (offA a + (329 : Nat))) ((329 : Nat)) (by kernel_rfl) (by omega) (Xg.get_ints (by omega)) (by kernel_rfl)) ?_
      refine Xg.any_int .i64 (IntKind.wrap .i64 ((B.getD (329 : Nat) (0 : Int)))) 7 (by kernel_rfl) rfl (by kernel_rfl) (by kernel_rfl) (by kernel_rfl) (by kernel_rfl) rfl (fun _ => by kernel_rfl) (Xg.wrap_i64_in (by omega)) ?_
      refine Xg.any_pure ((iv (B.getD (328 : Nat) (0 : Int)))) 8 (by kernel_rfl) rfl (by kernel_rfl) (by kernel_rfl) (by kernel_rfl) (by kernel_rfl) rfl (fun _ => by kernel_rfl) ?_
      refine Xg.any_pure ((iv (B.getD (329 : Nat) (0 : Int)))) 9 (by kernel_rfl) rfl (by kernel_rfl) (by kernel_rfl) (by kernel_rfl) (by kernel_rfl) rfl (fun _ => by kernel_rfl) ?_
      refine Xg.any_nil (by kernel_rfl) ?_
      refine Xg.at_seq ?_
      refine Xg.at_region ?_
      refine Xg.ops_op (by kernel_rfl) (Xg.opx_pure ((iv 0)) rfl (fun _ => by kernel_rfl) ?_)
      refine Xg.ops_nil ?_
      refine Xg.at_seq ?_
      refine Xg.at_block ?_
      refine Xg.at_seq ?_
      refine Xg.at_region ?_
      refine Xg.ops_op (by kernel_rfl) (Xg.opx_pure ((Value.slice a n c)) rfl (fun _ => by kernel_rfl) ?_)
      refine Xg.ops_op (by kernel_rfl) (Xg.opx_call1' [4] [A, mp mb IntKind.u8 (typL A2), typS A2, row rb (48 : TypeId) [iv k.mp, iv k.bk, Value.slice ka k.cl.length k.cl.length, Value.bool k.bt], row xb1 (29 : TypeId) [Value.string (St []), iv 0, iv 0, iv 0, iv 0, Value.bool false]] (fun _ => by kernel_rfl) (@hmk ) (by kernel_rfl) (by kernel_rfl) (by kernel_rfl) ?_)
      refine Xg.ops_op (by kernel_rfl) (Xg.opx_pure (.bool false) rfl (fun _ => by kernel_rfl) ?_)
      refine Xg.ops_op (by kernel_rfl) (Xg.opx_pure ((Value.bool false)) rfl (fun _ => by kernel_rfl) ?_)
      refine Xg.ops_nil ?_
      refine Xg.at_false (t := false) (by kernel_rfl) rfl ?_
      refine Xg.at_seq ?_
      refine Xg.at_draw [1] [(3, [0, 1, 2, 3], (RdIs (1 : Nat) (Value.slice a n c) n (List.map (Value.int IntKind.u8) B))), (4, [0, 1, 2, 3, 4], (RdIs (1 : Nat) (Value.slice a n c) n (List.map (Value.int IntKind.u8) B)))] (by kernel_rfl) ?_
      refine Xg.any_pure ((Value.slice a n c)) 0 (by kernel_rfl) rfl (by kernel_rfl) (by kernel_rfl) (by kernel_rfl) (by kernel_rfl) rfl (fun _ => by kernel_rfl) ?_
      refine Xg.any_pure ((Value.slice a n c)) 2 (by kernel_rfl) rfl (by kernel_rfl) (by kernel_rfl) (by kernel_rfl) (by kernel_rfl) rfl (fun _ => by kernel_rfl) ?_
      refine Xg.any_reads (.pointer (some (Addr.mk (Xg.blk a) (offA a + (333 : Nat)) none))) 3 0 (by kernel_rfl) rfl (by kernel_rfl) (by kernel_rfl) (by kernel_rfl) (by kernel_rfl) rfl rfl (by kernel_rfl) (Xg.rd_now 0 hR (by kernel_rfl)) (Xg.run_ix_rd (elem := 5) (kd := .i64) (e := ((333 : Int))) 1 ((333 : Nat)) (offA a + (333 : Nat)) (by kernel_rfl) (by kernel_rfl) (by kernel_rfl) (by kernel_rfl) rfl (by omega) (by simp only [List.length_map]; omega) (by omega)) ?_
      refine Xg.any_reads (uv (B.getD (333 : Nat) (0 : Int))) 4 1 (by kernel_rfl) rfl (by kernel_rfl) (by kernel_rfl) (by kernel_rfl) (by kernel_rfl) rfl rfl (by kernel_rfl) (Xg.rd_now 0 hR (by kernel_rfl)) (Xg.run_load_rd (off0 := (offA a + (333 : Nat))) ((333 : Nat)) (by kernel_rfl) (by omega) (Xg.get_ints (by omega)) (by kernel_rfl)) ?_
      refine Xg.any_each [1] (by kernel_rfl) rfl ⟨?_, trivial⟩
      refine Xg.comes_act rfl (by kernel_rfl) (by kernel_rfl) (Xg.opx_call1' [0] [A, mp mb IntKind.u8 (typL A2), typS A2, row rb (48 : TypeId) [iv k.mp, iv k.bk, Value.slice ka k.cl.length k.cl.length, Value.bool k.bt], row xb1 (29 : TypeId) [Value.string (St []), iv 0, iv 0, iv 0, iv 0, Value.bool false]] (fun _ => by kernel_rfl) (@hsm ) (by kernel_rfl) (by kernel_rfl) (by kernel_rfl) ?_)
      refine Xg.acts (Xg.owes_rd 0 hR (by kernel_rfl) (Xg.owes_rd 0 hR (by kernel_rfl) Xg.owes_nil)) ?_
      refine Xg.any_pure (.bool (!decide (((((231 : Int) - hsum B (25 : Nat)) % (256 : Int)) : Int) = (B.getD (333 : Nat) (0 : Int))))) 5 (by kernel_rfl) rfl (by kernel_rfl) (by kernel_rfl) (by kernel_rfl) (by kernel_rfl) rfl (fun _ => by kernel_rfl) ?_
      refine Xg.any_pure ((Value.bool !decide (((231 : Int) - hsum B (25 : Nat)) % (256 : Int) = B.getD (333 : Nat) (0 : Int)))) 6 (by kernel_rfl) rfl (by kernel_rfl) (by kernel_rfl) (by kernel_rfl) (by kernel_rfl) rfl (fun _ => by kernel_rfl) ?_
      refine Xg.any_nil (by kernel_rfl) ?_
      refine Xg.at_false (t := !decide ((((231 : Int) - hsum B (25 : Nat)) % (256 : Int) = B.getD (333 : Nat) (0 : Int)))) (by kernel_rfl) (by rw [decide_eq_true (by omega)]; rfl) ?_
      refine Xg.at_seq ?_
      refine Xg.at_region ?_
      refine Xg.ops_op (by kernel_rfl) (Xg.opx_pure ((Value.slice a n c)) rfl (fun _ => by kernel_rfl) ?_)
      refine Xg.ops_op (by kernel_rfl) (Xg.opx_rd 0 (.pointer (some (Addr.mk (Xg.blk a) (offA a + (323 : Nat)) none))) rfl hR (by kernel_rfl) (Xg.run_ix_rd (elem := 5) (kd := .i64) (e := ((323 : Int))) 1 ((323 : Nat)) (offA a + (323 : Nat)) (by kernel_rfl) (by kernel_rfl) (by kernel_rfl) (by kernel_rfl) rfl (by omega) (by simp only [List.length_map]; omega) (by omega)) ?_)
      refine Xg.ops_op (by kernel_rfl) (Xg.opx_rd 0 (uv (B.getD (323 : Nat) (0 : Int))) rfl hR (by kernel_rfl) (Xg.run_load_rd (off0 := (offA a + (323 : Nat))) ((323 : Nat)) (by kernel_rfl) (by omega) (Xg.get_ints (by omega)) (by kernel_rfl)) ?_)
      refine Xg.ops_op (by kernel_rfl) (Xg.opx_pure (.bool (decide (((B.getD (323 : Nat) (0 : Int)) : Int) = ((192 : Int))))) rfl (fun _ => by kernel_rfl) ?_)
      refine Xg.ops_op (by kernel_rfl) (Xg.opx_pure ((Value.bool (decide (B.getD (323 : Nat) (0 : Int) = (192 : Int))))) rfl (fun _ => by kernel_rfl) ?_)
      refine Xg.ops_nil ?_
      refine Xg.at_false (t := decide ((B.getD (323 : Nat) (0 : Int) = (192 : Int)))) (by kernel_rfl) (decide_eq_false (by omega)) ?_
      refine Xg.at_seq ?_
      refine Xg.at_region ?_
      refine Xg.ops_op (by kernel_rfl) (Xg.opx_pure ((Value.bool false)) rfl (fun _ => by kernel_rfl) ?_)
      refine Xg.ops_op (by kernel_rfl) (Xg.opx_pure (.bool true) rfl (fun _ => by kernel_rfl) ?_)
      refine Xg.ops_op (by kernel_rfl) (Xg.opx_pure ((Value.bool true)) rfl (fun _ => by kernel_rfl) ?_)
      refine Xg.ops_nil ?_
      refine Xg.at_true (t := true) (by kernel_rfl) rfl ?_
      refine Xg.at_region ?_
      refine Xg.ops_op (by kernel_rfl) (Xg.opx_pure ((iv 45)) rfl (fun _ => by kernel_rfl) ?_)
      refine Xg.ops_nil ?_
      refine Xg.at_inBlock ?_
      refine Xg.at_seq ?_
      refine Xg.at_seq ?_
      refine Xg.at_region ?_
      refine Xg.ops_op (by kernel_rfl) (Xg.opx_pure ((iv 45)) rfl (fun _ => by kernel_rfl) ?_)
      refine Xg.ops_op (by kernel_rfl) (Xg.opx_pure ((Value.bool true)) rfl (fun _ => by kernel_rfl) ?_)
      refine Xg.ops_nil ?_
      refine Xg.at_true (t := true) (by kernel_rfl) rfl ?_
      refine Xg.at_seq ?_
      refine Xg.at_region ?_
      refine Xg.ops_op (by kernel_rfl) (Xg.opx_pure ((Value.agg #[Value.string (ByteArray.mk #[]), iv 0, iv 0, iv 0, iv 0, Value.bool false])) rfl (fun _ => by kernel_rfl) ?_)
      refine Xg.ops_op (by kernel_rfl) (Xg.opx_pure ((iv 45)) rfl (fun _ => by kernel_rfl) ?_)
      refine Xg.ops_op (by kernel_rfl) (Xg.opx_storen 6 (off := 0) 4 [Value.string (ByteArray.mk #[]), iv 0, iv 0, iv 0, iv 0, Value.bool false] (by kernel_rfl) rfl (by kernel_rfl) (by kernel_rfl) rfl (by kernel_rfl) (Nat.le_of_ble_eq_true (by kernel_rfl)) ?_)
      refine Xg.ops_op (by kernel_rfl) (Xg.opx_pure ((iv 45)) rfl (fun _ => by kernel_rfl) ?_)
      refine Xg.ops_nil ?_
      refine Xg.at_ret_feed (v := (Value.tuple #[Value.agg #[Value.string (ByteArray.mk #[]), iv 0, iv 0, iv 0, iv 0, Value.bool false], iv 45])) [(Addr.mk xb1 (0 : Nat) none), (Addr.mk xb1 (1 : Nat) none), (Addr.mk xb1 (2 : Nat) none), (Addr.mk xb1 (3 : Nat) none), (Addr.mk xb1 (4 : Nat) none), (Addr.mk xb1 (5 : Nat) none)] [Value.string (ByteArray.mk #[]), iv 0, iv 0, iv 0, iv 0, Value.bool false] [0] [A] Go.Proofs.Tryd.func9 (by kernel_rfl) (Xg.cells_cons (b := xb1) (off := 0) 4 rfl (by kernel_rfl) (Xg.cells_cons (b := xb1) (off := 1) 4 rfl (by kernel_rfl) (Xg.cells_cons (b := xb1) (off := 2) 4 rfl (by kernel_rfl) (Xg.cells_cons (b := xb1) (off := 3) 4 rfl (by kernel_rfl) (Xg.cells_cons (b := xb1) (off := 4) 4 rfl (by kernel_rfl) (Xg.cells_cons (b := xb1) (off := 5) 4 rfl (by kernel_rfl) Xg.cells_nil)))))) (by kernel_rfl) (by kernel_rfl) ?_
      exact ⟨by kernel_rfl, by kernel_rfl⟩)
  | some k' =>
    rw [hkd] at hck
    dsimp only at hck
    obtain rfl := hk3 k' hkd
    obtain ⟨hcd, hmp⟩ := kd_codes hkd
    by_cases h4 : 6 < B.getD 328 0
    · rw [if_pos (Or.inl h4)] at hck
      rw [hck]
      (focus
        refine Xg.at_seq ?_
        refine Xg.at_draw [] [(1, [0, 1, 4, 5, 6, 7], (RdIs (1 : Nat) (Value.slice a n c) n (List.map (Value.int IntKind.u8) B))), (2, [0, 1, 2, 4, 5, 6, 7], (RdIs (1 : Nat) (Value.slice a n c) n (List.map (Value.int IntKind.u8) B))), (5, [0, 1, 2, 3, 4, 5, 8], (RdIs (1 : Nat) (Value.slice a n c) n (List.map (Value.int IntKind.u8) B))), (6, [0, 1, 2, 3, 4, 5, 6, 8], (RdIs (1 : Nat) (Value.slice a n c) n (List.map (Value.int IntKind.u8) B)))] (by kernel_rfl) ?_
        refine Xg.any_pure ((Value.slice a n c)) 0 (by kernel_rfl) rfl (by kernel_rfl) (by kernel_rfl) (by kernel_rfl) (by kernel_rfl) rfl (fun _ => by kernel_rfl) ?_
        refine Xg.any_reads (.pointer (some (Addr.mk (Xg.blk a) (offA a + (328 : Nat)) none))) 1 0 (by kernel_rfl) rfl (by kernel_rfl) (by kernel_rfl) (by kernel_rfl) (by kernel_rfl) rfl rfl (by kernel_rfl) (Xg.rd_now 4 hR (by kernel_rfl)) (Xg.run_ix_rd (elem := 5) (kd := .i64) (e := ((328 : Int))) 1 ((328 : Nat)) (offA a + (328 : Nat)) (by kernel_rfl) (by kernel_rfl) (by kernel_rfl) (by kernel_rfl) rfl (by omega) (by simp only [List.length_map]; omega) (by omega)) ?_
        refine Xg.any_reads (uv (B.getD (328 : Nat) (0 : Int))) 2 1 (by kernel_rfl) rfl (by kernel_rfl) (by kernel_rfl) (by kernel_rfl) (by kernel_rfl) rfl rfl (by kernel_rfl) (Xg.rd_now 4 hR (by kernel_rfl)) (Xg.run_load_rd (off0 := (offA a + (328 : Nat))) ((328 : Nat)) (by kernel_rfl) (by omega) (Xg.get_ints (by omega)) (by kernel_rfl)) ?_
        refine Xg.any_int .i64 (IntKind.wrap .i64 ((B.getD (328 : Nat) (0 : Int)))) 3 (by kernel_rfl) rfl (by kernel_rfl) (by kernel_rfl) (by kernel_rfl) (by kernel_rfl) rfl (fun _ => by kernel_rfl) (Xg.wrap_i64_in (by omega)) ?_
        refine Xg.any_pure ((Value.slice a n c)) 4 (by kernel_rfl) rfl (by kernel_rfl) (by kernel_rfl) (by kernel_rfl) (by kernel_rfl) rfl (fun _ => by kernel_rfl) ?_
        refine Xg.any_reads (.pointer (some (Addr.mk (Xg.blk a) (offA a + (329 : Nat)) none))) 5 2 (by kernel_rfl) rfl (by kernel_rfl) (by kernel_rfl) (by kernel_rfl) (by kernel_rfl) rfl rfl (by kernel_rfl) (Xg.rd_now 4 hR (by kernel_rfl)) (Xg.run_ix_rd (elem := 5) (kd := .i64) (e := ((329 : Int))) 1 ((329 : Nat)) (offA a + (329 : Nat)) (by kernel_rfl) (by kernel_rfl) (by kernel_rfl) (by kernel_rfl) rfl (by omega) (by simp only [List.length_map]; omega) (by omega)) ?_
        refine Xg.any_reads (uv (B.getD (329 : Nat) (0 : Int))) 6 3 (by kernel_rfl) rfl (by kernel_rfl) (by kernel_rfl) (by kernel_rfl) (by kernel_rfl) rfl rfl (by kernel_rfl) (Xg.rd_now 4 hR (by kernel_rfl)) (Xg.run_load_rd (off0 := (offA a + (329 : Nat))) ((329 : Nat)) (by kernel_rfl) (by omega) (Xg.get_ints (by omega)) (by kernel_rfl)) ?_
        refine Xg.any_int .i64 (IntKind.wrap .i64 ((B.getD (329 : Nat) (0 : Int)))) 7 (by kernel_rfl) rfl (by kernel_rfl) (by kernel_rfl) (by kernel_rfl) (by kernel_rfl) rfl (fun _ => by kernel_rfl) (Xg.wrap_i64_in (by omega)) ?_
        refine Xg.any_pure ((iv (B.getD (328 : Nat) (0 : Int)))) 8 (by kernel_rfl) rfl (by kernel_rfl) (by kernel_rfl) (by kernel_rfl) (by kernel_rfl) rfl (fun _ => by kernel_rfl) ?_
        refine Xg.any_pure ((iv (B.getD (329 : Nat) (0 : Int)))) 9 (by kernel_rfl) rfl (by kernel_rfl) (by kernel_rfl) (by kernel_rfl) (by kernel_rfl) rfl (fun _ => by kernel_rfl) ?_
        refine Xg.any_nil (by kernel_rfl) ?_
        refine Xg.at_seq ?_
        refine Xg.at_region ?_
        refine Xg.ops_op (by kernel_rfl) (Xg.opx_pure ((iv 0)) rfl (fun _ => by kernel_rfl) ?_)
        refine Xg.ops_nil ?_
        refine Xg.at_seq ?_
        refine Xg.at_block ?_
        refine Xg.at_seq ?_
        refine Xg.at_region ?_
        refine Xg.ops_op (by kernel_rfl) (Xg.opx_pure ((Value.slice a n c)) rfl (fun _ => by kernel_rfl) ?_)
        refine Xg.ops_op (by kernel_rfl) (Xg.opx_call1' [4] [A, mp mb IntKind.u8 (typL A2), typS A2, row rb (48 : TypeId) [iv k'.mp, iv k'.bk, Value.slice ka k'.cl.length k'.cl.length, Value.bool k'.bt], row xb1 (29 : TypeId) [Value.string (St []), iv 0, iv 0, iv 0, iv 0, Value.bool false]] (fun _ => by kernel_rfl) (@hmk ) (by kernel_rfl) (by kernel_rfl) (by kernel_rfl) ?_)
        refine Xg.ops_op (by kernel_rfl) (Xg.opx_pure (.bool false) rfl (fun _ => by kernel_rfl) ?_)
        refine Xg.ops_op (by kernel_rfl) (Xg.opx_pure ((Value.bool false)) rfl (fun _ => by kernel_rfl) ?_)
        refine Xg.ops_nil ?_
        refine Xg.at_false (t := false) (by kernel_rfl) rfl ?_
        refine Xg.at_seq ?_
        refine Xg.at_draw [1] [(3, [0, 1, 2, 3], (RdIs (1 : Nat) (Value.slice a n c) n (List.map (Value.int IntKind.u8) B))), (4, [0, 1, 2, 3, 4], (RdIs (1 : Nat) (Value.slice a n c) n (List.map (Value.int IntKind.u8) B)))] (by kernel_rfl) ?_
        refine Xg.any_pure ((Value.slice a n c)) 0 (by kernel_rfl) rfl (by kernel_rfl) (by kernel_rfl) (by kernel_rfl) (by kernel_rfl) rfl (fun _ => by kernel_rfl) ?_
        refine Xg.any_pure ((Value.slice a n c)) 2 (by kernel_rfl) rfl (by kernel_rfl) (by kernel_rfl) (by kernel_rfl) (by kernel_rfl) rfl (fun _ => by kernel_rfl) ?_
        refine Xg.any_reads (.pointer (some (Addr.mk (Xg.blk a) (offA a + (333 : Nat)) none))) 3 0 (by kernel_rfl) rfl (by kernel_rfl) (by kernel_rfl) (by kernel_rfl) (by kernel_rfl) rfl rfl (by kernel_rfl) (Xg.rd_now 0 hR (by kernel_rfl)) (Xg.run_ix_rd (elem := 5) (kd := .i64) (e := ((333 : Int))) 1 ((333 : Nat)) (offA a + (333 : Nat)) (by kernel_rfl) (by kernel_rfl) (by kernel_rfl) (by kernel_rfl) rfl (by omega) (by simp only [List.length_map]; omega) (by omega)) ?_
        refine Xg.any_reads (uv (B.getD (333 : Nat) (0 : Int))) 4 1 (by kernel_rfl) rfl (by kernel_rfl) (by kernel_rfl) (by kernel_rfl) (by kernel_rfl) rfl rfl (by kernel_rfl) (Xg.rd_now 0 hR (by kernel_rfl)) (Xg.run_load_rd (off0 := (offA a + (333 : Nat))) ((333 : Nat)) (by kernel_rfl) (by omega) (Xg.get_ints (by omega)) (by kernel_rfl)) ?_
        refine Xg.any_each [1] (by kernel_rfl) rfl ⟨?_, trivial⟩
        refine Xg.comes_act rfl (by kernel_rfl) (by kernel_rfl) (Xg.opx_call1' [0] [A, mp mb IntKind.u8 (typL A2), typS A2, row rb (48 : TypeId) [iv k'.mp, iv k'.bk, Value.slice ka k'.cl.length k'.cl.length, Value.bool k'.bt], row xb1 (29 : TypeId) [Value.string (St []), iv 0, iv 0, iv 0, iv 0, Value.bool false]] (fun _ => by kernel_rfl) (@hsm ) (by kernel_rfl) (by kernel_rfl) (by kernel_rfl) ?_)
        refine Xg.acts (Xg.owes_rd 0 hR (by kernel_rfl) (Xg.owes_rd 0 hR (by kernel_rfl) Xg.owes_nil)) ?_
        refine Xg.any_pure (.bool (!decide (((((231 : Int) - hsum B (25 : Nat)) % (256 : Int)) : Int) = (B.getD (333 : Nat) (0 : Int))))) 5 (by kernel_rfl) rfl (by kernel_rfl) (by kernel_rfl) (by kernel_rfl) (by kernel_rfl) rfl (fun _ => by kernel_rfl) ?_
        refine Xg.any_pure ((Value.bool !decide (((231 : Int) - hsum B (25 : Nat)) % (256 : Int) = B.getD (333 : Nat) (0 : Int)))) 6 (by kernel_rfl) rfl (by kernel_rfl) (by kernel_rfl) (by kernel_rfl) (by kernel_rfl) rfl (fun _ => by kernel_rfl) ?_
        refine Xg.any_nil (by kernel_rfl) ?_
        refine Xg.at_false (t := !decide ((((231 : Int) - hsum B (25 : Nat)) % (256 : Int) = B.getD (333 : Nat) (0 : Int)))) (by kernel_rfl) (by rw [decide_eq_true (by omega)]; rfl) ?_
        refine Xg.at_seq ?_
        refine Xg.at_region ?_
        refine Xg.ops_op (by kernel_rfl) (Xg.opx_pure ((Value.slice a n c)) rfl (fun _ => by kernel_rfl) ?_)
        refine Xg.ops_op (by kernel_rfl) (Xg.opx_rd 0 (.pointer (some (Addr.mk (Xg.blk a) (offA a + (323 : Nat)) none))) rfl hR (by kernel_rfl) (Xg.run_ix_rd (elem := 5) (kd := .i64) (e := ((323 : Int))) 1 ((323 : Nat)) (offA a + (323 : Nat)) (by kernel_rfl) (by kernel_rfl) (by kernel_rfl) (by kernel_rfl) rfl (by omega) (by simp only [List.length_map]; omega) (by omega)) ?_)
        refine Xg.ops_op (by kernel_rfl) (Xg.opx_rd 0 (uv (B.getD (323 : Nat) (0 : Int))) rfl hR (by kernel_rfl) (Xg.run_load_rd (off0 := (offA a + (323 : Nat))) ((323 : Nat)) (by kernel_rfl) (by omega) (Xg.get_ints (by omega)) (by kernel_rfl)) ?_)
        refine Xg.ops_op (by kernel_rfl) (Xg.opx_pure (.bool (decide (((B.getD (323 : Nat) (0 : Int)) : Int) = ((192 : Int))))) rfl (fun _ => by kernel_rfl) ?_)
        refine Xg.ops_op (by kernel_rfl) (Xg.opx_pure ((Value.bool (decide (B.getD (323 : Nat) (0 : Int) = (192 : Int))))) rfl (fun _ => by kernel_rfl) ?_)
        refine Xg.ops_nil ?_
        refine Xg.at_false (t := decide ((B.getD (323 : Nat) (0 : Int) = (192 : Int)))) (by kernel_rfl) (decide_eq_false (by omega)) ?_
        refine Xg.at_seq ?_
        refine Xg.at_region ?_
        refine Xg.ops_op (by kernel_rfl) (Xg.opx_pure ((Value.bool (some k').isSome)) rfl (fun _ => by kernel_rfl) ?_)
        refine Xg.ops_op (by kernel_rfl) (Xg.opx_pure (.bool (!((some k').isSome))) rfl (fun _ => by kernel_rfl) ?_)
        refine Xg.ops_op (by kernel_rfl) (Xg.opx_pure ((Value.bool !(some k').isSome)) rfl (fun _ => by kernel_rfl) ?_)
        refine Xg.ops_nil ?_
        refine Xg.at_false (t := false) (by kernel_rfl) rfl ?_
        refine Xg.at_seq ?_
        refine Xg.at_draw [6] [] (by kernel_rfl) ?_
        refine Xg.any_pure ((iv (B.getD (328 : Nat) (0 : Int)))) 0 (by kernel_rfl) rfl (by kernel_rfl) (by kernel_rfl) (by kernel_rfl) (by kernel_rfl) rfl (fun _ => by kernel_rfl) ?_
        refine Xg.any_pure (.bool (decide (((B.getD (328 : Nat) (0 : Int)) : Int) > ((6 : Int))))) 1 (by kernel_rfl) rfl (by kernel_rfl) (by kernel_rfl) (by kernel_rfl) (by kernel_rfl) rfl (fun _ => by kernel_rfl) ?_
        refine Xg.any_pure ((Value.bool (decide (B.getD (328 : Nat) (0 : Int) > (6 : Int))))) 2 (by kernel_rfl) rfl (by kernel_rfl) (by kernel_rfl) (by kernel_rfl) (by kernel_rfl) rfl (fun _ => by kernel_rfl) ?_
        refine Xg.any_flag (j := 57) (c := (decide (B.getD (328 : Nat) (0 : Int) > (6 : Int)))) (by kernel_rfl) (fun _ => ?_) (fun xh1 => absurd (of_decide_eq_false xh1) (by omega))
        refine Xg.any_skip 3 (by kernel_rfl) rfl (by kernel_rfl) (by kernel_rfl) (by kernel_rfl) (by kernel_rfl) ?_
        refine Xg.any_skip 4 (by kernel_rfl) rfl (by kernel_rfl) (by kernel_rfl) (by kernel_rfl) (by kernel_rfl) ?_
        refine Xg.any_skip 5 (by kernel_rfl) rfl (by kernel_rfl) (by kernel_rfl) (by kernel_rfl) (by kernel_rfl) ?_
        refine Xg.any_each [6] (by kernel_rfl) rfl ⟨?_, trivial⟩
        refine Xg.comes_skip rfl (by kernel_rfl) (by kernel_rfl) ?_
        refine Xg.acts Xg.owes_nil ?_
        refine Xg.any_skip 7 (by kernel_rfl) rfl (by kernel_rfl) (by kernel_rfl) (by kernel_rfl) (by kernel_rfl) ?_
        refine Xg.any_pure ((Value.bool true)) 8 (by kernel_rfl) rfl (by kernel_rfl) (by kernel_rfl) (by kernel_rfl) (by kernel_rfl) rfl (fun _ => by kernel_rfl) ?_
        refine Xg.any_pure ((Value.bool true)) 9 (by kernel_rfl) rfl (by kernel_rfl) (by kernel_rfl) (by kernel_rfl) (by kernel_rfl) rfl (fun _ => by kernel_rfl) ?_
        refine Xg.any_skip 10 (by kernel_rfl) rfl (by kernel_rfl) (by kernel_rfl) (by kernel_rfl) (by kernel_rfl) ?_
        refine Xg.any_skip 11 (by kernel_rfl) rfl (by kernel_rfl) (by kernel_rfl) (by kernel_rfl) (by kernel_rfl) ?_
        refine Xg.any_skip 12 (by kernel_rfl) rfl (by kernel_rfl) (by kernel_rfl) (by kernel_rfl) (by kernel_rfl) ?_
        refine Xg.any_skip 13 (by kernel_rfl) rfl (by kernel_rfl) (by kernel_rfl) (by kernel_rfl) (by kernel_rfl) ?_
        refine Xg.any_skip 14 (by kernel_rfl) rfl (by kernel_rfl) (by kernel_rfl) (by kernel_rfl) (by kernel_rfl) ?_
        refine Xg.any_skip 15 (by kernel_rfl) rfl (by kernel_rfl) (by kernel_rfl) (by kernel_rfl) (by kernel_rfl) ?_
        refine Xg.any_pure ((Value.bool true)) 16 (by kernel_rfl) rfl (by kernel_rfl) (by kernel_rfl) (by kernel_rfl) (by kernel_rfl) rfl (fun _ => by kernel_rfl) ?_
        refine Xg.any_pure ((Value.bool true)) 17 (by kernel_rfl) rfl (by kernel_rfl) (by kernel_rfl) (by kernel_rfl) (by kernel_rfl) rfl (fun _ => by kernel_rfl) ?_
        refine Xg.any_nil (by kernel_rfl) ?_
        refine Xg.at_true (t := true) (by kernel_rfl) rfl ?_
        refine Xg.at_region ?_
        refine Xg.ops_op (by kernel_rfl) (Xg.opx_pure ((iv 46)) rfl (fun _ => by kernel_rfl) ?_)
        refine Xg.ops_nil ?_
        refine Xg.at_inBlock ?_
        refine Xg.at_seq ?_
        refine Xg.at_seq ?_
        refine Xg.at_region ?_
        refine Xg.ops_op (by kernel_rfl) (Xg.opx_pure ((iv 46)) rfl (fun _ => by kernel_rfl) ?_)
        refine Xg.ops_op (by kernel_rfl) (Xg.opx_pure ((Value.bool true)) rfl (fun _ => by kernel_rfl) ?_)
        refine Xg.ops_nil ?_
        refine Xg.at_true (t := true) (by kernel_rfl) rfl ?_
        refine Xg.at_seq ?_
        refine Xg.at_region ?_
        refine Xg.ops_op (by kernel_rfl) (Xg.opx_pure ((Value.agg #[Value.string (ByteArray.mk #[]), iv 0, iv 0, iv 0, iv 0, Value.bool false])) rfl (fun _ => by kernel_rfl) ?_)
        refine Xg.ops_op (by kernel_rfl) (Xg.opx_pure ((iv 46)) rfl (fun _ => by kernel_rfl) ?_)
        refine Xg.ops_op (by kernel_rfl) (Xg.opx_storen 6 (off := 0) 4 [Value.string (ByteArray.mk #[]), iv 0, iv 0, iv 0, iv 0, Value.bool false] (by kernel_rfl) rfl (by kernel_rfl) (by kernel_rfl) rfl (by kernel_rfl) (Nat.le_of_ble_eq_true (by kernel_rfl)) ?_)
        refine Xg.ops_op (by kernel_rfl) (Xg.opx_pure ((iv 46)) rfl (fun _ => by kernel_rfl) ?_)
        refine Xg.ops_nil ?_
        refine Xg.at_ret_feed (v := (Value.tuple #[Value.agg #[Value.string (ByteArray.mk #[]), iv 0, iv 0, iv 0, iv 0, Value.bool false], iv 46])) [(Addr.mk xb1 (0 : Nat) none), (Addr.mk xb1 (1 : Nat) none), (Addr.mk xb1 (2 : Nat) none), (Addr.mk xb1 (3 : Nat) none), (Addr.mk xb1 (4 : Nat) none), (Addr.mk xb1 (5 : Nat) none)] [Value.string (ByteArray.mk #[]), iv 0, iv 0, iv 0, iv 0, Value.bool false] [0] [A] Go.Proofs.Tryd.func9 (by kernel_rfl) (Xg.cells_cons (b := xb1) (off := 0) 4 rfl (by kernel_rfl) (Xg.cells_cons (b := xb1) (off := 1) 4 rfl (by kernel_rfl) (Xg.cells_cons (b := xb1) (off := 2) 4 rfl (by kernel_rfl) (Xg.cells_cons (b := xb1) (off := 3) 4 rfl (by kernel_rfl) (Xg.cells_cons (b := xb1) (off := 4) 4 rfl (by kernel_rfl) (Xg.cells_cons (b := xb1) (off := 5) 4 rfl (by kernel_rfl) Xg.cells_nil)))))) (by kernel_rfl) (by kernel_rfl) ?_
        exact ⟨by kernel_rfl, by kernel_rfl⟩)
    obtain ⟨hs1, hs2, hs3⟩ := shl_bnk (c := B.getD 328 0) ⟨hb8.1, by omega⟩
    obtain ⟨bn, hbn⟩ : ∃ bn, bnk (B.getD 328 0) = bn := ⟨_, rfl⟩
    rw [hbn] at hs1 hs2 hs3 hck
    by_cases h5 : k'.bk < bn
    · rw [if_pos (Or.inr (Or.inl h5))] at hck
      rw [hck]
      (focus
        refine Xg.at_seq ?_
        refine Xg.at_draw [] [(1, [0, 1, 4, 5, 6, 7], (RdIs (1 : Nat) (Value.slice a n c) n (List.map (Value.int IntKind.u8) B))), (2, [0, 1, 2, 4, 5, 6, 7], (RdIs (1 : Nat) (Value.slice a n c) n (List.map (Value.int IntKind.u8) B))), (5, [0, 1, 2, 3, 4, 5, 8], (RdIs (1 : Nat) (Value.slice a n c) n (List.map (Value.int IntKind.u8) B))), (6, [0, 1, 2, 3, 4, 5, 6, 8], (RdIs (1 : Nat) (Value.slice a n c) n (List.map (Value.int IntKind.u8) B)))] (by kernel_rfl) ?_
        refine Xg.any_pure ((Value.slice a n c)) 0 (by kernel_rfl) rfl (by kernel_rfl) (by kernel_rfl) (by kernel_rfl) (by kernel_rfl) rfl (fun _ => by kernel_rfl) ?_
        refine Xg.any_reads (.pointer (some (Addr.mk (Xg.blk a) (offA a + (328 : Nat)) none))) 1 0 (by kernel_rfl) rfl (by kernel_rfl) (by kernel_rfl) (by kernel_rfl) (by kernel_rfl) rfl rfl (by kernel_rfl) (Xg.rd_now 4 hR (by kernel_rfl)) (Xg.run_ix_rd (elem := 5) (kd := .i64) (e := ((328 : Int))) 1 ((328 : Nat)) (offA a + (328 : Nat)) (by kernel_rfl) (by kernel_rfl) (by kernel_rfl) (by kernel_rfl) rfl (by omega) (by simp only [List.length_map]; omega) (by omega)) ?_
        refine Xg.any_reads (uv (B.getD (328 : Nat) (0 : Int))) 2 1 (by kernel_rfl) rfl (by kernel_rfl) (by kernel_rfl) (by kernel_rfl) (by kernel_rfl) rfl rfl (by kernel_rfl) (Xg.rd_now 4 hR (by kernel_rfl)) (Xg.run_load_rd (off0 := (offA a + (328 : Nat))) ((328 : Nat)) (by kernel_rfl) (by omega) (Xg.get_ints (by omega)) (by kernel_rfl)) ?_
        refine Xg.any_int .i64 (IntKind.wrap .i64 ((B.getD (328 : Nat) (0 : Int)))) 3 (by kernel_rfl) rfl (by kernel_rfl) (by kernel_rfl) (by kernel_rfl) (by kernel_rfl) rfl (fun _ => by kernel_rfl) (Xg.wrap_i64_in (by omega)) ?_
        refine Xg.any_pure ((Value.slice a n c)) 4 (by kernel_rfl) rfl (by kernel_rfl) (by kernel_rfl) (by kernel_rfl) (by kernel_rfl) rfl (fun _ => by kernel_rfl) ?_
        refine Xg.any_reads (.pointer (some (Addr.mk (Xg.blk a) (offA a + (329 : Nat)) none))) 5 2 (by kernel_rfl) rfl (by kernel_rfl) (by kernel_rfl) (by kernel_rfl) (by kernel_rfl) rfl rfl (by kernel_rfl) (Xg.rd_now 4 hR (by kernel_rfl)) (Xg.run_ix_rd (elem := 5) (kd := .i64) (e := ((329 : Int))) 1 ((329 : Nat)) (offA a + (329 : Nat)) (by kernel_rfl) (by kernel_rfl) (by kernel_rfl) (by kernel_rfl) rfl (by omega) (by simp only [List.length_map]; omega) (by omega)) ?_
        refine Xg.any_reads (uv (B.getD (329 : Nat) (0 : Int))) 6 3 (by kernel_rfl) rfl (by kernel_rfl) (by kernel_rfl) (by kernel_rfl) (by kernel_rfl) rfl rfl (by kernel_rfl) (Xg.rd_now 4 hR (by kernel_rfl)) (Xg.run_load_rd (off0 := (offA a + (329 : Nat))) ((329 : Nat)) (by kernel_rfl) (by omega) (Xg.get_ints (by omega)) (by kernel_rfl)) ?_
        refine Xg.any_int .i64 (IntKind.wrap .i64 ((B.getD (329 : Nat) (0 : Int)))) 7 (by kernel_rfl) rfl (by kernel_rfl) (by kernel_rfl) (by kernel_rfl) (by kernel_rfl) rfl (fun _ => by kernel_rfl) (Xg.wrap_i64_in (by omega)) ?_
        refine Xg.any_pure ((iv (B.getD (328 : Nat) (0 : Int)))) 8 (by kernel_rfl) rfl (by kernel_rfl) (by kernel_rfl) (by kernel_rfl) (by kernel_rfl) rfl (fun _ => by kernel_rfl) ?_
        refine Xg.any_pure ((iv (B.getD (329 : Nat) (0 : Int)))) 9 (by kernel_rfl) rfl (by kernel_rfl) (by kernel_rfl) (by kernel_rfl) (by kernel_rfl) rfl (fun _ => by kernel_rfl) ?_
        refine Xg.any_nil (by kernel_rfl) ?_
        refine Xg.at_seq ?_
        refine Xg.at_region ?_
        refine Xg.ops_op (by kernel_rfl) (Xg.opx_pure ((iv 0)) rfl (fun _ => by kernel_rfl) ?_)
        refine Xg.ops_nil ?_
        refine Xg.at_seq ?_
        refine Xg.at_block ?_
        refine Xg.at_seq ?_
        refine Xg.at_region ?_
        refine Xg.ops_op (by kernel_rfl) (Xg.opx_pure ((Value.slice a n c)) rfl (fun _ => by kernel_rfl) ?_)
        refine Xg.ops_op (by kernel_rfl) (Xg.opx_call1' [4] [A, mp mb IntKind.u8 (typL A2), typS A2, row rb (48 : TypeId) [iv k'.mp, iv k'.bk, Value.slice ka k'.cl.length k'.cl.length, Value.bool k'.bt], row xb1 (29 : TypeId) [Value.string (St []), iv 0, iv 0, iv 0, iv 0, Value.bool false]] (fun _ => by kernel_rfl) (@hmk ) (by kernel_rfl) (by kernel_rfl) (by kernel_rfl) ?_)
        refine Xg.ops_op (by kernel_rfl) (Xg.opx_pure (.bool false) rfl (fun _ => by kernel_rfl) ?_)
        refine Xg.ops_op (by kernel_rfl) (Xg.opx_pure ((Value.bool false)) rfl (fun _ => by kernel_rfl) ?_)
        refine Xg.ops_nil ?_
        refine Xg.at_false (t := false) (by kernel_rfl) rfl ?_
        refine Xg.at_seq ?_
        refine Xg.at_draw [1] [(3, [0, 1, 2, 3], (RdIs (1 : Nat) (Value.slice a n c) n (List.map (Value.int IntKind.u8) B))), (4, [0, 1, 2, 3, 4], (RdIs (1 : Nat) (Value.slice a n c) n (List.map (Value.int IntKind.u8) B)))] (by kernel_rfl) ?_
        refine Xg.any_pure ((Value.slice a n c)) 0 (by kernel_rfl) rfl (by kernel_rfl) (by kernel_rfl) (by kernel_rfl) (by kernel_rfl) rfl (fun _ => by kernel_rfl) ?_
        refine Xg.any_pure ((Value.slice a n c)) 2 (by kernel_rfl) rfl (by kernel_rfl) (by kernel_rfl) (by kernel_rfl) (by kernel_rfl) rfl (fun _ => by kernel_rfl) ?_
        refine Xg.any_reads (.pointer (some (Addr.mk (Xg.blk a) (offA a + (333 : Nat)) none))) 3 0 (by kernel_rfl) rfl (by kernel_rfl) (by kernel_rfl) (by kernel_rfl) (by kernel_rfl) rfl rfl (by kernel_rfl) (Xg.rd_now 0 hR (by kernel_rfl)) (Xg.run_ix_rd (elem := 5) (kd := .i64) (e := ((333 : Int))) 1 ((333 : Nat)) (offA a + (333 : Nat)) (by kernel_rfl) (by kernel_rfl) (by kernel_rfl) (by kernel_rfl) rfl (by omega) (by simp only [List.length_map]; omega) (by omega)) ?_
        refine Xg.any_reads (uv (B.getD (333 : Nat) (0 : Int))) 4 1 (by kernel_rfl) rfl (by kernel_rfl) (by kernel_rfl) (by kernel_rfl) (by kernel_rfl) rfl rfl (by kernel_rfl) (Xg.rd_now 0 hR (by kernel_rfl)) (Xg.run_load_rd (off0 := (offA a + (333 : Nat))) ((333 : Nat)) (by kernel_rfl) (by omega) (Xg.get_ints (by omega)) (by kernel_rfl)) ?_
        refine Xg.any_each [1] (by kernel_rfl) rfl ⟨?_, trivial⟩
        refine Xg.comes_act rfl (by kernel_rfl) (by kernel_rfl) (Xg.opx_call1' [0] [A, mp mb IntKind.u8 (typL A2), typS A2, row rb (48 : TypeId) [iv k'.mp, iv k'.bk, Value.slice ka k'.cl.length k'.cl.length, Value.bool k'.bt], row xb1 (29 : TypeId) [Value.string (St []), iv 0, iv 0, iv 0, iv 0, Value.bool false]] (fun _ => by kernel_rfl) (@hsm ) (by kernel_rfl) (by kernel_rfl) (by kernel_rfl) ?_)
        refine Xg.acts (Xg.owes_rd 0 hR (by kernel_rfl) (Xg.owes_rd 0 hR (by kernel_rfl) Xg.owes_nil)) ?_
        refine Xg.any_pure (.bool (!decide (((((231 : Int) - hsum B (25 : Nat)) % (256 : Int)) : Int) = (B.getD (333 : Nat) (0 : Int))))) 5 (by kernel_rfl) rfl (by kernel_rfl) (by kernel_rfl) (by kernel_rfl) (by kernel_rfl) rfl (fun _ => by kernel_rfl) ?_
        refine Xg.any_pure ((Value.bool !decide (((231 : Int) - hsum B (25 : Nat)) % (256 : Int) = B.getD (333 : Nat) (0 : Int)))) 6 (by kernel_rfl) rfl (by kernel_rfl) (by kernel_rfl) (by kernel_rfl) (by kernel_rfl) rfl (fun _ => by kernel_rfl) ?_
        refine Xg.any_nil (by kernel_rfl) ?_
        refine Xg.at_false (t := !decide ((((231 : Int) - hsum B (25 : Nat)) % (256 : Int) = B.getD (333 : Nat) (0 : Int)))) (by kernel_rfl) (by rw [decide_eq_true (by omega)]; rfl) ?_
        refine Xg.at_seq ?_
        refine Xg.at_region ?_
        refine Xg.ops_op (by kernel_rfl) (Xg.opx_pure ((Value.slice a n c)) rfl (fun _ => by kernel_rfl) ?_)
        refine Xg.ops_op (by kernel_rfl) (Xg.opx_rd 0 (.pointer (some (Addr.mk (Xg.blk a) (offA a + (323 : Nat)) none))) rfl hR (by kernel_rfl) (Xg.run_ix_rd (elem := 5) (kd := .i64) (e := ((323 : Int))) 1 ((323 : Nat)) (offA a + (323 : Nat)) (by kernel_rfl) (by kernel_rfl) (by kernel_rfl) (by kernel_rfl) rfl (by omega) (by simp only [List.length_map]; omega) (by omega)) ?_)
        refine Xg.ops_op (by kernel_rfl) (Xg.opx_rd 0 (uv (B.getD (323 : Nat) (0 : Int))) rfl hR (by kernel_rfl) (Xg.run_load_rd (off0 := (offA a + (323 : Nat))) ((323 : Nat)) (by kernel_rfl) (by omega) (Xg.get_ints (by omega)) (by kernel_rfl)) ?_)
        refine Xg.ops_op (by kernel_rfl) (Xg.opx_pure (.bool (decide (((B.getD (323 : Nat) (0 : Int)) : Int) = ((192 : Int))))) rfl (fun _ => by kernel_rfl) ?_)
        refine Xg.ops_op (by kernel_rfl) (Xg.opx_pure ((Value.bool (decide (B.getD (323 : Nat) (0 : Int) = (192 : Int))))) rfl (fun _ => by kernel_rfl) ?_)
        refine Xg.ops_nil ?_
        refine Xg.at_false (t := decide ((B.getD (323 : Nat) (0 : Int) = (192 : Int)))) (by kernel_rfl) (decide_eq_false (by omega)) ?_
        refine Xg.at_seq ?_
        refine Xg.at_region ?_
        refine Xg.ops_op (by kernel_rfl) (Xg.opx_pure ((Value.bool (some k').isSome)) rfl (fun _ => by kernel_rfl) ?_)
        refine Xg.ops_op (by kernel_rfl) (Xg.opx_pure (.bool (!((some k').isSome))) rfl (fun _ => by kernel_rfl) ?_)
        refine Xg.ops_op (by kernel_rfl) (Xg.opx_pure ((Value.bool !(some k').isSome)) rfl (fun _ => by kernel_rfl) ?_)
        refine Xg.ops_nil ?_
        refine Xg.at_false (t := false) (by kernel_rfl) rfl ?_
        refine Xg.at_seq ?_
        refine Xg.at_draw [] [(6, [0, 1, 2, 3, 4, 5, 6], Xg.CellIs (rb) (((1 : Nat))) ((iv k'.bk)))] (by kernel_rfl) ?_
        refine Xg.any_pure ((iv (B.getD (328 : Nat) (0 : Int)))) 0 (by kernel_rfl) rfl (by kernel_rfl) (by kernel_rfl) (by kernel_rfl) (by kernel_rfl) rfl (fun _ => by kernel_rfl) ?_
        refine Xg.any_pure (.bool (decide (((B.getD (328 : Nat) (0 : Int)) : Int) > ((6 : Int))))) 1 (by kernel_rfl) rfl (by kernel_rfl) (by kernel_rfl) (by kernel_rfl) (by kernel_rfl) rfl (fun _ => by kernel_rfl) ?_
        refine Xg.any_pure ((Value.bool (decide (B.getD (328 : Nat) (0 : Int) > (6 : Int))))) 2 (by kernel_rfl) rfl (by kernel_rfl) (by kernel_rfl) (by kernel_rfl) (by kernel_rfl) rfl (fun _ => by kernel_rfl) ?_
        refine Xg.any_flag (j := 57) (c := (decide (B.getD (328 : Nat) (0 : Int) > (6 : Int)))) (by kernel_rfl) (fun xh1 => absurd (of_decide_eq_true xh1) (by omega)) (fun _ => ?_)
        refine Xg.any_pure ((iv (B.getD (328 : Nat) (0 : Int)))) 3 (by kernel_rfl) rfl (by kernel_rfl) (by kernel_rfl) (by kernel_rfl) (by kernel_rfl) rfl (fun _ => by kernel_rfl) ?_
        refine Xg.any_pure (.int .i64 (IntKind.wrap .i64 (((2 : Int)) * 2 ^ min (Int.toNat (B.getD (328 : Nat) (0 : Int))) (IntKind.bits .i64)))) 4 (by kernel_rfl) rfl (by kernel_rfl) (by kernel_rfl) (by kernel_rfl) (by kernel_rfl) rfl (fun _ => Xg.run_shl (k1 := .i64) (k2 := .i64) (m := ((2 : Int))) (e := (B.getD (328 : Nat) (0 : Int))) (by kernel_rfl) (by kernel_rfl) (by omega)) ?_
        refine Xg.any_pure ((pv rb 1)) 5 (by kernel_rfl) rfl (by kernel_rfl) (by kernel_rfl) (by kernel_rfl) (by kernel_rfl) rfl (fun _ => by kernel_rfl) ?_
        refine Xg.any_reads (iv k'.bk) 6 0 (by kernel_rfl) rfl (by kernel_rfl) (by kernel_rfl) (by kernel_rfl) (by kernel_rfl) rfl rfl (by kernel_rfl) (Xg.cell_now (b := rb) (off := ((1 : Nat))) 3 rfl (by kernel_rfl)) (fun _ h => Xg.run_load (by kernel_rfl) (by kernel_rfl) h) ?_
        refine Xg.any_pure (.bool (decide (((IntKind.i64.wrap ((2 : Int) * (2 : Int) ^ min (B.getD (328 : Nat) (0 : Int)).toNat IntKind.i64.bits)) : Int) > k'.bk))) 7 (by kernel_rfl) rfl (by kernel_rfl) (by kernel_rfl) (by kernel_rfl) (by kernel_rfl) rfl (fun _ => by kernel_rfl) ?_
        refine Xg.any_flag (j := 62) (c := (decide (IntKind.i64.wrap ((2 : Int) * (2 : Int) ^ min (B.getD (328 : Nat) (0 : Int)).toNat IntKind.i64.bits) > k'.bk))) (by kernel_rfl) (fun _ => ?_) (fun xh1 => absurd (of_decide_eq_false xh1) (by omega))
        refine Xg.any_pure ((Value.bool true)) 8 (by kernel_rfl) rfl (by kernel_rfl) (by kernel_rfl) (by kernel_rfl) (by kernel_rfl) rfl (fun _ => by kernel_rfl) ?_
        refine Xg.any_pure ((Value.bool true)) 9 (by kernel_rfl) rfl (by kernel_rfl) (by kernel_rfl) (by kernel_rfl) (by kernel_rfl) rfl (fun _ => by kernel_rfl) ?_
        refine Xg.any_skip 10 (by kernel_rfl) rfl (by kernel_rfl) (by kernel_rfl) (by kernel_rfl) (by kernel_rfl) ?_
        refine Xg.any_skip 11 (by kernel_rfl) rfl (by kernel_rfl) (by kernel_rfl) (by kernel_rfl) (by kernel_rfl) ?_
        refine Xg.any_skip 12 (by kernel_rfl) rfl (by kernel_rfl) (by kernel_rfl) (by kernel_rfl) (by kernel_rfl) ?_
        refine Xg.any_skip 13 (by kernel_rfl) rfl (by kernel_rfl) (by kernel_rfl) (by kernel_rfl) (by kernel_rfl) ?_
        refine Xg.any_skip 14 (by kernel_rfl) rfl (by kernel_rfl) (by kernel_rfl) (by kernel_rfl) (by kernel_rfl) ?_
        refine Xg.any_skip 15 (by kernel_rfl) rfl (by kernel_rfl) (by kernel_rfl) (by kernel_rfl) (by kernel_rfl) ?_
        refine Xg.any_pure ((Value.bool true)) 16 (by kernel_rfl) rfl (by kernel_rfl) (by kernel_rfl) (by kernel_rfl) (by kernel_rfl) rfl (fun _ => by kernel_rfl) ?_
        refine Xg.any_pure ((Value.bool true)) 17 (by kernel_rfl) rfl (by kernel_rfl) (by kernel_rfl) (by kernel_rfl) (by kernel_rfl) rfl (fun _ => by kernel_rfl) ?_
        refine Xg.any_nil (by kernel_rfl) ?_
        refine Xg.at_true (t := true) (by kernel_rfl) rfl ?_
        refine Xg.at_region ?_
        refine Xg.ops_op (by kernel_rfl) (Xg.opx_pure ((iv 46)) rfl (fun _ => by kernel_rfl) ?_)
        refine Xg.ops_nil ?_
        refine Xg.at_inBlock ?_
        refine Xg.at_seq ?_
        refine Xg.at_seq ?_
        refine Xg.at_region ?_
        refine Xg.ops_op (by kernel_rfl) (Xg.opx_pure ((iv 46)) rfl (fun _ => by kernel_rfl) ?_)
        refine Xg.ops_op (by kernel_rfl) (Xg.opx_pure ((Value.bool true)) rfl (fun _ => by kernel_rfl) ?_)
        refine Xg.ops_nil ?_
        refine Xg.at_true (t := true) (by kernel_rfl) rfl ?_
        refine Xg.at_seq ?_
        refine Xg.at_region ?_
        refine Xg.ops_op (by kernel_rfl) (Xg.opx_pure ((Value.agg #[Value.string (ByteArray.mk #[]), iv 0, iv 0, iv 0, iv 0, Value.bool false])) rfl (fun _ => by kernel_rfl) ?_)
        refine Xg.ops_op (by kernel_rfl) (Xg.opx_pure ((iv 46)) rfl (fun _ => by kernel_rfl) ?_)
        refine Xg.ops_op (by kernel_rfl) (Xg.opx_storen 6 (off := 0) 4 [Value.string (ByteArray.mk #[]), iv 0, iv 0, iv 0, iv 0, Value.bool false] (by kernel_rfl) rfl (by kernel_rfl) (by kernel_rfl) rfl (by kernel_rfl) (Nat.le_of_ble_eq_true (by kernel_rfl)) ?_)
        refine Xg.ops_op (by kernel_rfl) (Xg.opx_pure ((iv 46)) rfl (fun _ => by kernel_rfl) ?_)
        refine Xg.ops_nil ?_
        refine Xg.at_ret_feed (v := (Value.tuple #[Value.agg #[Value.string (ByteArray.mk #[]), iv 0, iv 0, iv 0, iv 0, Value.bool false], iv 46])) [(Addr.mk xb1 (0 : Nat) none), (Addr.mk xb1 (1 : Nat) none), (Addr.mk xb1 (2 : Nat) none), (Addr.mk xb1 (3 : Nat) none), (Addr.mk xb1 (4 : Nat) none), (Addr.mk xb1 (5 : Nat) none)] [Value.string (ByteArray.mk #[]), iv 0, iv 0, iv 0, iv 0, Value.bool false] [0] [A] Go.Proofs.Tryd.func9 (by kernel_rfl) (Xg.cells_cons (b := xb1) (off := 0) 4 rfl (by kernel_rfl) (Xg.cells_cons (b := xb1) (off := 1) 4 rfl (by kernel_rfl) (Xg.cells_cons (b := xb1) (off := 2) 4 rfl (by kernel_rfl) (Xg.cells_cons (b := xb1) (off := 3) 4 rfl (by kernel_rfl) (Xg.cells_cons (b := xb1) (off := 4) 4 rfl (by kernel_rfl) (Xg.cells_cons (b := xb1) (off := 5) 4 rfl (by kernel_rfl) Xg.cells_nil)))))) (by kernel_rfl) (by kernel_rfl) ?_
        exact ⟨by kernel_rfl, by kernel_rfl⟩)
    by_cases h6 : bn * 16384 ≠ B.length
    · rw [if_pos (Or.inr (Or.inr h6))] at hck
      rw [hck]
      (focus
        refine Xg.at_seq ?_
        refine Xg.at_draw [] [(1, [0, 1, 4, 5, 6, 7], (RdIs (1 : Nat) (Value.slice a n c) n (List.map (Value.int IntKind.u8) B))), (2, [0, 1, 2, 4, 5, 6, 7], (RdIs (1 : Nat) (Value.slice a n c) n (List.map (Value.int IntKind.u8) B))), (5, [0, 1, 2, 3, 4, 5, 8], (RdIs (1 : Nat) (Value.slice a n c) n (List.map (Value.int IntKind.u8) B))), (6, [0, 1, 2, 3, 4, 5, 6, 8], (RdIs (1 : Nat) (Value.slice a n c) n (List.map (Value.int IntKind.u8) B)))] (by kernel_rfl) ?_
        refine Xg.any_pure ((Value.slice a n c)) 0 (by kernel_rfl) rfl (by kernel_rfl) (by kernel_rfl) (by kernel_rfl) (by kernel_rfl) rfl (fun _ => by kernel_rfl) ?_
        refine Xg.any_reads (.pointer (some (Addr.mk (Xg.blk a) (offA a + (328 : Nat)) none))) 1 0 (by kernel_rfl) rfl (by kernel_rfl) (by kernel_rfl) (by kernel_rfl) (by kernel_rfl) rfl rfl (by kernel_rfl) (Xg.rd_now 4 hR (by kernel_rfl)) (Xg.run_ix_rd (elem := 5) (kd := .i64) (e := ((328 : Int))) 1 ((328 : Nat)) (offA a + (328 : Nat)) (by kernel_rfl) (by kernel_rfl) (by kernel_rfl) (by kernel_rfl) rfl (by omega) (by simp only [List.length_map]; omega) (by omega)) ?_
        refine Xg.any_reads (uv (B.getD (328 : Nat) (0 : Int))) 2 1 (by kernel_rfl) rfl (by kernel_rfl) (by kernel_rfl) (by kernel_rfl) (by kernel_rfl) rfl rfl (by kernel_rfl) (Xg.rd_now 4 hR (by kernel_rfl)) (Xg.run_load_rd (off0 := (offA a + (328 : Nat))) ((328 : Nat)) (by kernel_rfl) (by omega) (Xg.get_ints (by omega)) (by kernel_rfl)) ?_
        refine Xg.any_int .i64 (IntKind.wrap .i64 ((B.getD (328 : Nat) (0 : Int)))) 3 (by kernel_rfl) rfl (by kernel_rfl) (by kernel_rfl) (by kernel_rfl) (by kernel_rfl) rfl (fun _ => by kernel_rfl) (Xg.wrap_i64_in (by omega)) ?_
        refine Xg.any_pure ((Value.slice a n c)) 4 (by kernel_rfl) rfl (by kernel_rfl) (by kernel_rfl) (by kernel_rfl) (by kernel_rfl) rfl (fun _ => by kernel_rfl) ?_
        refine Xg.any_reads (.pointer (some (Addr.mk (Xg.blk a) (offA a + (329 : Nat)) none))) 5 2 (by kernel_rfl) rfl (by kernel_rfl) (by kernel_rfl) (by kernel_rfl) (by kernel_rfl) rfl rfl (by kernel_rfl) (Xg.rd_now 4 hR (by kernel_rfl)) (Xg.run_ix_rd (elem := 5) (kd := .i64) (e := ((329 : Int))) 1 ((329 : Nat)) (offA a + (329 : Nat)) (by kernel_rfl) (by kernel_rfl) (by kernel_rfl) (by kernel_rfl) rfl (by omega) (by simp only [List.length_map]; omega) (by omega)) ?_
        refine Xg.any_reads (uv (B.getD (329 : Nat) (0 : Int))) 6 3 (by kernel_rfl) rfl (by kernel_rfl) (by kernel_rfl) (by kernel_rfl) (by kernel_rfl) rfl rfl (by kernel_rfl) (Xg.rd_now 4 hR (by kernel_rfl)) (Xg.run_load_rd (off0 := (offA a + (329 : Nat))) ((329 : Nat)) (by kernel_rfl) (by omega) (Xg.get_ints (by omega)) (by kernel_rfl)) ?_
        refine Xg.any_int .i64 (IntKind.wrap .i64 ((B.getD (329 : Nat) (0 : Int)))) 7 (by kernel_rfl) rfl (by kernel_rfl) (by kernel_rfl) (by kernel_rfl) (by kernel_rfl) rfl (fun _ => by kernel_rfl) (Xg.wrap_i64_in (by omega)) ?_
        refine Xg.any_pure ((iv (B.getD (328 : Nat) (0 : Int)))) 8 (by kernel_rfl) rfl (by kernel_rfl) (by kernel_rfl) (by kernel_rfl) (by kernel_rfl) rfl (fun _ => by kernel_rfl) ?_
        refine Xg.any_pure ((iv (B.getD (329 : Nat) (0 : Int)))) 9 (by kernel_rfl) rfl (by kernel_rfl) (by kernel_rfl) (by kernel_rfl) (by kernel_rfl) rfl (fun _ => by kernel_rfl) ?_
        refine Xg.any_nil (by kernel_rfl) ?_
        refine Xg.at_seq ?_
        refine Xg.at_region ?_
        refine Xg.ops_op (by kernel_rfl) (Xg.opx_pure ((iv 0)) rfl (fun _ => by kernel_rfl) ?_)
        refine Xg.ops_nil ?_
        refine Xg.at_seq ?_
        refine Xg.at_block ?_
        refine Xg.at_seq ?_
        refine Xg.at_region ?_
        refine Xg.ops_op (by kernel_rfl) (Xg.opx_pure ((Value.slice a n c)) rfl (fun _ => by kernel_rfl) ?_)
        refine Xg.ops_op (by kernel_rfl) (Xg.opx_call1' [4] [A, mp mb IntKind.u8 (typL A2), typS A2, row rb (48 : TypeId) [iv k'.mp, iv k'.bk, Value.slice ka k'.cl.length k'.cl.length, Value.bool k'.bt], row xb1 (29 : TypeId) [Value.string (St []), iv 0, iv 0, iv 0, iv 0, Value.bool false]] (fun _ => by kernel_rfl) (@hmk ) (by kernel_rfl) (by kernel_rfl) (by kernel_rfl) ?_)
        refine Xg.ops_op (by kernel_rfl) (Xg.opx_pure (.bool false) rfl (fun _ => by kernel_rfl) ?_)
        refine Xg.ops_op (by kernel_rfl) (Xg.opx_pure ((Value.bool false)) rfl (fun _ => by kernel_rfl) ?_)
        refine Xg.ops_nil ?_
        refine Xg.at_false (t := false) (by kernel_rfl) rfl ?_
        refine Xg.at_seq ?_
        refine Xg.at_draw [1] [(3, [0, 1, 2, 3], (RdIs (1 : Nat) (Value.slice a n c) n (List.map (Value.int IntKind.u8) B))), (4, [0, 1, 2, 3, 4], (RdIs (1 : Nat) (Value.slice a n c) n (List.map (Value.int IntKind.u8) B)))] (by kernel_rfl) ?_
        refine Xg.any_pure ((Value.slice a n c)) 0 (by kernel_rfl) rfl (by kernel_rfl) (by kernel_rfl) (by kernel_rfl) (by kernel_rfl) rfl (fun _ => by kernel_rfl) ?_
        refine Xg.any_pure ((Value.slice a n c)) 2 (by kernel_rfl) rfl (by kernel_rfl) (by kernel_rfl) (by kernel_rfl) (by kernel_rfl) rfl (fun _ => by kernel_rfl) ?_
        refine Xg.any_reads (.pointer (some (Addr.mk (Xg.blk a) (offA a + (333 : Nat)) none))) 3 0 (by kernel_rfl) rfl (by kernel_rfl) (by kernel_rfl) (by kernel_rfl) (by kernel_rfl) rfl rfl (by kernel_rfl) (Xg.rd_now 0 hR (by kernel_rfl)) (Xg.run_ix_rd (elem := 5) (kd := .i64) (e := ((333 : Int))) 1 ((333 : Nat)) (offA a + (333 : Nat)) (by kernel_rfl) (by kernel_rfl) (by kernel_rfl) (by kernel_rfl) rfl (by omega) (by simp only [List.length_map]; omega) (by omega)) ?_
        refine Xg.any_reads (uv (B.getD (333 : Nat) (0 : Int))) 4 1 (by kernel_rfl) rfl (by kernel_rfl) (by kernel_rfl) (by kernel_rfl) (by kernel_rfl) rfl rfl (by kernel_rfl) (Xg.rd_now 0 hR (by kernel_rfl)) (Xg.run_load_rd (off0 := (offA a + (333 : Nat))) ((333 : Nat)) (by kernel_rfl) (by omega) (Xg.get_ints (by omega)) (by kernel_rfl)) ?_
        refine Xg.any_each [1] (by kernel_rfl) rfl ⟨?_, trivial⟩
        refine Xg.comes_act rfl (by kernel_rfl) (by kernel_rfl) (Xg.opx_call1' [0] [A, mp mb IntKind.u8 (typL A2), typS A2, row rb (48 : TypeId) [iv k'.mp, iv k'.bk, Value.slice ka k'.cl.length k'.cl.length, Value.bool k'.bt], row xb1 (29 : TypeId) [Value.string (St []), iv 0, iv 0, iv 0, iv 0, Value.bool false]] (fun _ => by kernel_rfl) (@hsm ) (by kernel_rfl) (by kernel_rfl) (by kernel_rfl) ?_)
        refine Xg.acts (Xg.owes_rd 0 hR (by kernel_rfl) (Xg.owes_rd 0 hR (by kernel_rfl) Xg.owes_nil)) ?_
        refine Xg.any_pure (.bool (!decide (((((231 : Int) - hsum B (25 : Nat)) % (256 : Int)) : Int) = (B.getD (333 : Nat) (0 : Int))))) 5 (by kernel_rfl) rfl (by kernel_rfl) (by kernel_rfl) (by kernel_rfl) (by kernel_rfl) rfl (fun _ => by kernel_rfl) ?_
        refine Xg.any_pure ((Value.bool !decide (((231 : Int) - hsum B (25 : Nat)) % (256 : Int) = B.getD (333 : Nat) (0 : Int)))) 6 (by kernel_rfl) rfl (by kernel_rfl) (by kernel_rfl) (by kernel_rfl) (by kernel_rfl) rfl (fun _ => by kernel_rfl) ?_
        refine Xg.any_nil (by kernel_rfl) ?_
        refine Xg.at_false (t := !decide ((((231 : Int) - hsum B (25 : Nat)) % (256 : Int) = B.getD (333 : Nat) (0 : Int)))) (by kernel_rfl) (by rw [decide_eq_true (by omega)]; rfl) ?_
        refine Xg.at_seq ?_
        refine Xg.at_region ?_
        refine Xg.ops_op (by kernel_rfl) (Xg.opx_pure ((Value.slice a n c)) rfl (fun _ => by kernel_rfl) ?_)
        refine Xg.ops_op (by kernel_rfl) (Xg.opx_rd 0 (.pointer (some (Addr.mk (Xg.blk a) (offA a + (323 : Nat)) none))) rfl hR (by kernel_rfl) (Xg.run_ix_rd (elem := 5) (kd := .i64) (e := ((323 : Int))) 1 ((323 : Nat)) (offA a + (323 : Nat)) (by kernel_rfl) (by kernel_rfl) (by kernel_rfl) (by kernel_rfl) rfl (by omega) (by simp only [List.length_map]; omega) (by omega)) ?_)
        refine Xg.ops_op (by kernel_rfl) (Xg.opx_rd 0 (uv (B.getD (323 : Nat) (0 : Int))) rfl hR (by kernel_rfl) (Xg.run_load_rd (off0 := (offA a + (323 : Nat))) ((323 : Nat)) (by kernel_rfl) (by omega) (Xg.get_ints (by omega)) (by kernel_rfl)) ?_)
        refine Xg.ops_op (by kernel_rfl) (Xg.opx_pure (.bool (decide (((B.getD (323 : Nat) (0 : Int)) : Int) = ((192 : Int))))) rfl (fun _ => by kernel_rfl) ?_)
        refine Xg.ops_op (by kernel_rfl) (Xg.opx_pure ((Value.bool (decide (B.getD (323 : Nat) (0 : Int) = (192 : Int))))) rfl (fun _ => by kernel_rfl) ?_)
        refine Xg.ops_nil ?_
        refine Xg.at_false (t := decide ((B.getD (323 : Nat) (0 : Int) = (192 : Int)))) (by kernel_rfl) (decide_eq_false (by omega)) ?_
        refine Xg.at_seq ?_
        refine Xg.at_region ?_
        refine Xg.ops_op (by kernel_rfl) (Xg.opx_pure ((Value.bool (some k').isSome)) rfl (fun _ => by kernel_rfl) ?_)
        refine Xg.ops_op (by kernel_rfl) (Xg.opx_pure (.bool (!((some k').isSome))) rfl (fun _ => by kernel_rfl) ?_)
        refine Xg.ops_op (by kernel_rfl) (Xg.opx_pure ((Value.bool !(some k').isSome)) rfl (fun _ => by kernel_rfl) ?_)
        refine Xg.ops_nil ?_
        refine Xg.at_false (t := false) (by kernel_rfl) rfl ?_
        refine Xg.at_seq ?_
        refine Xg.at_draw [] [(6, [0, 1, 2, 3, 4, 5, 6], Xg.CellIs (rb) (((1 : Nat))) ((iv k'.bk)))] (by kernel_rfl) ?_
        refine Xg.any_pure ((iv (B.getD (328 : Nat) (0 : Int)))) 0 (by kernel_rfl) rfl (by kernel_rfl) (by kernel_rfl) (by kernel_rfl) (by kernel_rfl) rfl (fun _ => by kernel_rfl) ?_
        refine Xg.any_pure (.bool (decide (((B.getD (328 : Nat) (0 : Int)) : Int) > ((6 : Int))))) 1 (by kernel_rfl) rfl (by kernel_rfl) (by kernel_rfl) (by kernel_rfl) (by kernel_rfl) rfl (fun _ => by kernel_rfl) ?_
        refine Xg.any_pure ((Value.bool (decide (B.getD (328 : Nat) (0 : Int) > (6 : Int))))) 2 (by kernel_rfl) rfl (by kernel_rfl) (by kernel_rfl) (by kernel_rfl) (by kernel_rfl) rfl (fun _ => by kernel_rfl) ?_
        refine Xg.any_flag (j := 57) (c := (decide (B.getD (328 : Nat) (0 : Int) > (6 : Int)))) (by kernel_rfl) (fun xh1 => absurd (of_decide_eq_true xh1) (by omega)) (fun _ => ?_)
        refine Xg.any_pure ((iv (B.getD (328 : Nat) (0 : Int)))) 3 (by kernel_rfl) rfl (by kernel_rfl) (by kernel_rfl) (by kernel_rfl) (by kernel_rfl) rfl (fun _ => by kernel_rfl) ?_
        refine Xg.any_pure (.int .i64 (IntKind.wrap .i64 (((2 : Int)) * 2 ^ min (Int.toNat (B.getD (328 : Nat) (0 : Int))) (IntKind.bits .i64)))) 4 (by kernel_rfl) rfl (by kernel_rfl) (by kernel_rfl) (by kernel_rfl) (by kernel_rfl) rfl (fun _ => Xg.run_shl (k1 := .i64) (k2 := .i64) (m := ((2 : Int))) (e := (B.getD (328 : Nat) (0 : Int))) (by kernel_rfl) (by kernel_rfl) (by omega)) ?_
        refine Xg.any_pure ((pv rb 1)) 5 (by kernel_rfl) rfl (by kernel_rfl) (by kernel_rfl) (by kernel_rfl) (by kernel_rfl) rfl (fun _ => by kernel_rfl) ?_
        refine Xg.any_reads (iv k'.bk) 6 0 (by kernel_rfl) rfl (by kernel_rfl) (by kernel_rfl) (by kernel_rfl) (by kernel_rfl) rfl rfl (by kernel_rfl) (Xg.cell_now (b := rb) (off := ((1 : Nat))) 3 rfl (by kernel_rfl)) (fun _ h => Xg.run_load (by kernel_rfl) (by kernel_rfl) h) ?_
        refine Xg.any_pure (.bool (decide (((IntKind.i64.wrap ((2 : Int) * (2 : Int) ^ min (B.getD (328 : Nat) (0 : Int)).toNat IntKind.i64.bits)) : Int) > k'.bk))) 7 (by kernel_rfl) rfl (by kernel_rfl) (by kernel_rfl) (by kernel_rfl) (by kernel_rfl) rfl (fun _ => by kernel_rfl) ?_
        refine Xg.any_flag (j := 62) (c := (decide (IntKind.i64.wrap ((2 : Int) * (2 : Int) ^ min (B.getD (328 : Nat) (0 : Int)).toNat IntKind.i64.bits) > k'.bk))) (by kernel_rfl) (fun xh1 => absurd (of_decide_eq_true xh1) (by omega)) (fun _ => ?_)
        refine Xg.any_pure ((Value.bool false)) 8 (by kernel_rfl) rfl (by kernel_rfl) (by kernel_rfl) (by kernel_rfl) (by kernel_rfl) rfl (fun _ => by kernel_rfl) ?_
        refine Xg.any_pure ((Value.bool false)) 9 (by kernel_rfl) rfl (by kernel_rfl) (by kernel_rfl) (by kernel_rfl) (by kernel_rfl) rfl (fun _ => by kernel_rfl) ?_
        refine Xg.any_pure ((iv (B.getD (328 : Nat) (0 : Int)))) 10 (by kernel_rfl) rfl (by kernel_rfl) (by kernel_rfl) (by kernel_rfl) (by kernel_rfl) rfl (fun _ => by kernel_rfl) ?_
        refine Xg.any_pure (.int .i64 (IntKind.wrap .i64 (((2 : Int)) * 2 ^ min (Int.toNat (B.getD (328 : Nat) (0 : Int))) (IntKind.bits .i64)))) 11 (by kernel_rfl) rfl (by kernel_rfl) (by kernel_rfl) (by kernel_rfl) (by kernel_rfl) rfl (fun _ => Xg.run_shl (k1 := .i64) (k2 := .i64) (m := ((2 : Int))) (e := (B.getD (328 : Nat) (0 : Int))) (by kernel_rfl) (by kernel_rfl) (by omega)) ?_
        refine Xg.any_int .i64 (IntKind.wrap .i64 ((IntKind.i64.wrap ((2 : Int) * (2 : Int) ^ min (B.getD (328 : Nat) (0 : Int)).toNat IntKind.i64.bits) * (16384 : Int)))) 12 (by kernel_rfl) rfl (by kernel_rfl) (by kernel_rfl) (by kernel_rfl) (by kernel_rfl) rfl (fun _ => by kernel_rfl) (Xg.wrap_i64_in (by omega)) ?_
        refine Xg.any_pure ((Value.slice a n c)) 13 (by kernel_rfl) rfl (by kernel_rfl) (by kernel_rfl) (by kernel_rfl) (by kernel_rfl) rfl (fun _ => by kernel_rfl) ?_
        refine Xg.any_pure ((iv (↑n : Int))) 14 (by kernel_rfl) rfl (by kernel_rfl) (by kernel_rfl) (by kernel_rfl) (by kernel_rfl) rfl (fun _ => by kernel_rfl) ?_
        refine Xg.any_pure (.bool (!decide (((IntKind.i64.wrap ((2 : Int) * (2 : Int) ^ min (B.getD (328 : Nat) (0 : Int)).toNat IntKind.i64.bits) * (16384 : Int)) : Int) = ((↑n : Int))))) 15 (by kernel_rfl) rfl (by kernel_rfl) (by kernel_rfl) (by kernel_rfl) (by kernel_rfl) rfl (fun _ => by kernel_rfl) ?_
        refine Xg.any_flag (j := 70) (c := (!decide (IntKind.i64.wrap ((2 : Int) * (2 : Int) ^ min (B.getD (328 : Nat) (0 : Int)).toNat IntKind.i64.bits) * (16384 : Int) = (↑n : Int)))) (by kernel_rfl) (fun _ => ?_) (fun xh1 => absurd xh1 (by rw [decide_eq_false (p := (IntKind.i64.wrap ((2 : Int) * (2 : Int) ^ min (B.getD (328 : Nat) (0 : Int)).toNat IntKind.i64.bits) * (16384 : Int) = (↑n : Int))) (by omega)]; decide))
        refine Xg.any_pure ((Value.bool true)) 16 (by kernel_rfl) rfl (by kernel_rfl) (by kernel_rfl) (by kernel_rfl) (by kernel_rfl) rfl (fun _ => by kernel_rfl) ?_
        refine Xg.any_pure ((Value.bool true)) 17 (by kernel_rfl) rfl (by kernel_rfl) (by kernel_rfl) (by kernel_rfl) (by kernel_rfl) rfl (fun _ => by kernel_rfl) ?_
        refine Xg.any_nil (by kernel_rfl) ?_
        refine Xg.at_true (t := true) (by kernel_rfl) rfl ?_
        refine Xg.at_region ?_
        refine Xg.ops_op (by kernel_rfl) (Xg.opx_pure ((iv 46)) rfl (fun _ => by kernel_rfl) ?_)
        refine Xg.ops_nil ?_
        refine Xg.at_inBlock ?_
        refine Xg.at_seq ?_
        refine Xg.at_seq ?_
        refine Xg.at_region ?_
        refine Xg.ops_op (by kernel_rfl) (Xg.opx_pure ((iv 46)) rfl (fun _ => by kernel_rfl) ?_)
        refine Xg.ops_op (by kernel_rfl) (Xg.opx_pure ((Value.bool true)) rfl (fun _ => by kernel_rfl) ?_)
        refine Xg.ops_nil ?_
        refine Xg.at_true (t := true) (by kernel_rfl) rfl ?_
        refine Xg.at_seq ?_
        refine Xg.at_region ?_
        refine Xg.ops_op (by kernel_rfl) (Xg.opx_pure ((Value.agg #[Value.string (ByteArray.mk #[]), iv 0, iv 0, iv 0, iv 0, Value.bool false])) rfl (fun _ => by kernel_rfl) ?_)
        refine Xg.ops_op (by kernel_rfl) (Xg.opx_pure ((iv 46)) rfl (fun _ => by kernel_rfl) ?_)
        refine Xg.ops_op (by kernel_rfl) (Xg.opx_storen 6 (off := 0) 4 [Value.string (ByteArray.mk #[]), iv 0, iv 0, iv 0, iv 0, Value.bool false] (by kernel_rfl) rfl (by kernel_rfl) (by kernel_rfl) rfl (by kernel_rfl) (Nat.le_of_ble_eq_true (by kernel_rfl)) ?_)
        refine Xg.ops_op (by kernel_rfl) (Xg.opx_pure ((iv 46)) rfl (fun _ => by kernel_rfl) ?_)
        refine Xg.ops_nil ?_
        refine Xg.at_ret_feed (v := (Value.tuple #[Value.agg #[Value.string (ByteArray.mk #[]), iv 0, iv 0, iv 0, iv 0, Value.bool false], iv 46])) [(Addr.mk xb1 (0 : Nat) none), (Addr.mk xb1 (1 : Nat) none), (Addr.mk xb1 (2 : Nat) none), (Addr.mk xb1 (3 : Nat) none), (Addr.mk xb1 (4 : Nat) none), (Addr.mk xb1 (5 : Nat) none)] [Value.string (ByteArray.mk #[]), iv 0, iv 0, iv 0, iv 0, Value.bool false] [0] [A] Go.Proofs.Tryd.func9 (by kernel_rfl) (Xg.cells_cons (b := xb1) (off := 0) 4 rfl (by kernel_rfl) (Xg.cells_cons (b := xb1) (off := 1) 4 rfl (by kernel_rfl) (Xg.cells_cons (b := xb1) (off := 2) 4 rfl (by kernel_rfl) (Xg.cells_cons (b := xb1) (off := 3) 4 rfl (by kernel_rfl) (Xg.cells_cons (b := xb1) (off := 4) 4 rfl (by kernel_rfl) (Xg.cells_cons (b := xb1) (off := 5) 4 rfl (by kernel_rfl) Xg.cells_nil)))))) (by kernel_rfl) (by kernel_rfl) ?_
        exact ⟨by kernel_rfl, by kernel_rfl⟩)
    rw [if_neg (by omega)] at hck
    have hha := has_d (typS A2) ka _ _ k'.cl rfl (by omega) hk4 (B.getD 329 0)
    by_cases h7 : B.getD 329 0 ∉ k'.cl
    · rw [decide_eq_false h7] at hha
      rw [if_pos h7] at hck
      rw [hck]
      (focus
        refine Xg.at_seq ?_
        refine Xg.at_draw [] [(1, [0, 1, 4, 5, 6, 7], (RdIs (1 : Nat) (Value.slice a n c) n (List.map (Value.int IntKind.u8) B))), (2, [0, 1, 2, 4, 5, 6, 7], (RdIs (1 : Nat) (Value.slice a n c) n (List.map (Value.int IntKind.u8) B))), (5, [0, 1, 2, 3, 4, 5, 8], (RdIs (1 : Nat) (Value.slice a n c) n (List.map (Value.int IntKind.u8) B))), (6, [0, 1, 2, 3, 4, 5, 6, 8], (RdIs (1 : Nat) (Value.slice a n c) n (List.map (Value.int IntKind.u8) B)))] (by kernel_rfl) ?_
        refine Xg.any_pure ((Value.slice a n c)) 0 (by kernel_rfl) rfl (by kernel_rfl) (by kernel_rfl) (by kernel_rfl) (by kernel_rfl) rfl (fun _ => by kernel_rfl) ?_
        refine Xg.any_reads (.pointer (some (Addr.mk (Xg.blk a) (offA a + (328 : Nat)) none))) 1 0 (by kernel_rfl) rfl (by kernel_rfl) (by kernel_rfl) (by kernel_rfl) (by kernel_rfl) rfl rfl (by kernel_rfl) (Xg.rd_now 4 hR (by kernel_rfl)) (Xg.run_ix_rd (elem := 5) (kd := .i64) (e := ((328 : Int))) 1 ((328 : Nat)) (offA a + (328 : Nat)) (by kernel_rfl) (by kernel_rfl) (by kernel_rfl) (by kernel_rfl) rfl (by omega) (by simp only [List.length_map]; omega) (by omega)) ?_
        refine Xg.any_reads (uv (B.getD (328 : Nat) (0 : Int))) 2 1 (by kernel_rfl) rfl (by kernel_rfl) (by kernel_rfl) (by kernel_rfl) (by kernel_rfl) rfl rfl (by kernel_rfl) (Xg.rd_now 4 hR (by kernel_rfl)) (Xg.run_load_rd (off0 := (offA a + (328 : Nat))) ((328 : Nat)) (by kernel_rfl) (by omega) (Xg.get_ints (by omega)) (by kernel_rfl)) ?_
        refine Xg.any_int .i64 (IntKind.wrap .i64 ((B.getD (328 : Nat) (0 : Int)))) 3 (by kernel_rfl) rfl (by kernel_rfl) (by kernel_rfl) (by kernel_rfl) (by kernel_rfl) rfl (fun _ => by kernel_rfl) (Xg.wrap_i64_in (by omega)) ?_
        refine Xg.any_pure ((Value.slice a n c)) 4 (by kernel_rfl) rfl (by kernel_rfl) (by kernel_rfl) (by kernel_rfl) (by kernel_rfl) rfl (fun _ => by kernel_rfl) ?_
        refine Xg.any_reads (.pointer (some (Addr.mk (Xg.blk a) (offA a + (329 : Nat)) none))) 5 2 (by kernel_rfl) rfl (by kernel_rfl) (by kernel_rfl) (by kernel_rfl) (by kernel_rfl) rfl rfl (by kernel_rfl) (Xg.rd_now 4 hR (by kernel_rfl)) (Xg.run_ix_rd (elem := 5) (kd := .i64) (e := ((329 : Int))) 1 ((329 : Nat)) (offA a + (329 : Nat)) (by kernel_rfl) (by kernel_rfl) (by kernel_rfl) (by kernel_rfl) rfl (by omega) (by simp only [List.length_map]; omega) (by omega)) ?_
        refine Xg.any_reads (uv (B.getD (329 : Nat) (0 : Int))) 6 3 (by kernel_rfl) rfl (by kernel_rfl) (by kernel_rfl) (by kernel_rfl) (by kernel_rfl) rfl rfl (by kernel_rfl) (Xg.rd_now 4 hR (by kernel_rfl)) (Xg.run_load_rd (off0 := (offA a + (329 : Nat))) ((329 : Nat)) (by kernel_rfl) (by omega) (Xg.get_ints (by omega)) (by kernel_rfl)) ?_
        refine Xg.any_int .i64 (IntKind.wrap .i64 ((B.getD (329 : Nat) (0 : Int)))) 7 (by kernel_rfl) rfl (by kernel_rfl) (by kernel_rfl) (by kernel_rfl) (by kernel_rfl) rfl (fun _ => by kernel_rfl) (Xg.wrap_i64_in (by omega)) ?_
        refine Xg.any_pure ((iv (B.getD (328 : Nat) (0 : Int)))) 8 (by kernel_rfl) rfl (by kernel_rfl) (by kernel_rfl) (by kernel_rfl) (by kernel_rfl) rfl (fun _ => by kernel_rfl) ?_
        refine Xg.any_pure ((iv (B.getD (329 : Nat) (0 : Int)))) 9 (by kernel_rfl) rfl (by kernel_rfl) (by kernel_rfl) (by kernel_rfl) (by kernel_rfl) rfl (fun _ => by kernel_rfl) ?_
        refine Xg.any_nil (by kernel_rfl) ?_
        refine Xg.at_seq ?_
        refine Xg.at_region ?_
        refine Xg.ops_op (by kernel_rfl) (Xg.opx_pure ((iv 0)) rfl (fun _ => by kernel_rfl) ?_)
        refine Xg.ops_nil ?_
        refine Xg.at_seq ?_
        refine Xg.at_block ?_
        refine Xg.at_seq ?_
        refine Xg.at_region ?_
        refine Xg.ops_op (by kernel_rfl) (Xg.opx_pure ((Value.slice a n c)) rfl (fun _ => by kernel_rfl) ?_)
        refine Xg.ops_op (by kernel_rfl) (Xg.opx_call1' [4] [A, mp mb IntKind.u8 (typL A2), typS A2, row rb (48 : TypeId) [iv k'.mp, iv k'.bk, Value.slice ka k'.cl.length k'.cl.length, Value.bool k'.bt], row xb1 (29 : TypeId) [Value.string (St []), iv 0, iv 0, iv 0, iv 0, Value.bool false]] (fun _ => by kernel_rfl) (@hmk ) (by kernel_rfl) (by kernel_rfl) (by kernel_rfl) ?_)
        refine Xg.ops_op (by kernel_rfl) (Xg.opx_pure (.bool false) rfl (fun _ => by kernel_rfl) ?_)
        refine Xg.ops_op (by kernel_rfl) (Xg.opx_pure ((Value.bool false)) rfl (fun _ => by kernel_rfl) ?_)
        refine Xg.ops_nil ?_
        refine Xg.at_false (t := false) (by kernel_rfl) rfl ?_
        refine Xg.at_seq ?_
        refine Xg.at_draw [1] [(3, [0, 1, 2, 3], (RdIs (1 : Nat) (Value.slice a n c) n (List.map (Value.int IntKind.u8) B))), (4, [0, 1, 2, 3, 4], (RdIs (1 : Nat) (Value.slice a n c) n (List.map (Value.int IntKind.u8) B)))] (by kernel_rfl) ?_
        refine Xg.any_pure ((Value.slice a n c)) 0 (by kernel_rfl) rfl (by kernel_rfl) (by kernel_rfl) (by kernel_rfl) (by kernel_rfl) rfl (fun _ => by kernel_rfl) ?_
        refine Xg.any_pure ((Value.slice a n c)) 2 (by kernel_rfl) rfl (by kernel_rfl) (by kernel_rfl) (by kernel_rfl) (by kernel_rfl) rfl (fun _ => by kernel_rfl) ?_
        refine Xg.any_reads (.pointer (some (Addr.mk (Xg.blk a) (offA a + (333 : Nat)) none))) 3 0 (by kernel_rfl) rfl (by kernel_rfl) (by kernel_rfl) (by kernel_rfl) (by kernel_rfl) rfl rfl (by kernel_rfl) (Xg.rd_now 0 hR (by kernel_rfl)) (Xg.run_ix_rd (elem := 5) (kd := .i64) (e := ((333 : Int))) 1 ((333 : Nat)) (offA a + (333 : Nat)) (by kernel_rfl) (by kernel_rfl) (by kernel_rfl) (by kernel_rfl) rfl (by omega) (by simp only [List.length_map]; omega) (by omega)) ?_
        refine Xg.any_reads (uv (B.getD (333 : Nat) (0 : Int))) 4 1 (by kernel_rfl) rfl (by kernel_rfl) (by kernel_rfl) (by kernel_rfl) (by kernel_rfl) rfl rfl (by kernel_rfl) (Xg.rd_now 0 hR (by kernel_rfl)) (Xg.run_load_rd (off0 := (offA a + (333 : Nat))) ((333 : Nat)) (by kernel_rfl) (by omega) (Xg.get_ints (by omega)) (by kernel_rfl)) ?_
        refine Xg.any_each [1] (by kernel_rfl) rfl ⟨?_, trivial⟩
        refine Xg.comes_act rfl (by kernel_rfl) (by kernel_rfl) (Xg.opx_call1' [0] [A, mp mb IntKind.u8 (typL A2), typS A2, row rb (48 : TypeId) [iv k'.mp, iv k'.bk, Value.slice ka k'.cl.length k'.cl.length, Value.bool k'.bt], row xb1 (29 : TypeId) [Value.string (St []), iv 0, iv 0, iv 0, iv 0, Value.bool false]] (fun _ => by kernel_rfl) (@hsm ) (by kernel_rfl) (by kernel_rfl) (by kernel_rfl) ?_)
        refine Xg.acts (Xg.owes_rd 0 hR (by kernel_rfl) (Xg.owes_rd 0 hR (by kernel_rfl) Xg.owes_nil)) ?_
        refine Xg.any_pure (.bool (!decide (((((231 : Int) - hsum B (25 : Nat)) % (256 : Int)) : Int) = (B.getD (333 : Nat) (0 : Int))))) 5 (by kernel_rfl) rfl (by kernel_rfl) (by kernel_rfl) (by kernel_rfl) (by kernel_rfl) rfl (fun _ => by kernel_rfl) ?_
        refine Xg.any_pure ((Value.bool !decide (((231 : Int) - hsum B (25 : Nat)) % (256 : Int) = B.getD (333 : Nat) (0 : Int)))) 6 (by kernel_rfl) rfl (by kernel_rfl) (by kernel_rfl) (by kernel_rfl) (by kernel_rfl) rfl (fun _ => by kernel_rfl) ?_
        refine Xg.any_nil (by kernel_rfl) ?_
        refine Xg.at_false (t := !decide ((((231 : Int) - hsum B (25 : Nat)) % (256 : Int) = B.getD (333 : Nat) (0 : Int)))) (by kernel_rfl) (by rw [decide_eq_true (by omega)]; rfl) ?_
        refine Xg.at_seq ?_
        refine Xg.at_region ?_
        refine Xg.ops_op (by kernel_rfl) (Xg.opx_pure ((Value.slice a n c)) rfl (fun _ => by kernel_rfl) ?_)
        refine Xg.ops_op (by kernel_rfl) (Xg.opx_rd 0 (.pointer (some (Addr.mk (Xg.blk a) (offA a + (323 : Nat)) none))) rfl hR (by kernel_rfl) (Xg.run_ix_rd (elem := 5) (kd := .i64) (e := ((323 : Int))) 1 ((323 : Nat)) (offA a + (323 : Nat)) (by kernel_rfl) (by kernel_rfl) (by kernel_rfl) (by kernel_rfl) rfl (by omega) (by simp only [List.length_map]; omega) (by omega)) ?_)
        refine Xg.ops_op (by kernel_rfl) (Xg.opx_rd 0 (uv (B.getD (323 : Nat) (0 : Int))) rfl hR (by kernel_rfl) (Xg.run_load_rd (off0 := (offA a + (323 : Nat))) ((323 : Nat)) (by kernel_rfl) (by omega) (Xg.get_ints (by omega)) (by kernel_rfl)) ?_)
        refine Xg.ops_op (by kernel_rfl) (Xg.opx_pure (.bool (decide (((B.getD (323 : Nat) (0 : Int)) : Int) = ((192 : Int))))) rfl (fun _ => by kernel_rfl) ?_)
        refine Xg.ops_op (by kernel_rfl) (Xg.opx_pure ((Value.bool (decide (B.getD (323 : Nat) (0 : Int) = (192 : Int))))) rfl (fun _ => by kernel_rfl) ?_)
        refine Xg.ops_nil ?_
        refine Xg.at_false (t := decide ((B.getD (323 : Nat) (0 : Int) = (192 : Int)))) (by kernel_rfl) (decide_eq_false (by omega)) ?_
        refine Xg.at_seq ?_
        refine Xg.at_region ?_
        refine Xg.ops_op (by kernel_rfl) (Xg.opx_pure ((Value.bool (some k').isSome)) rfl (fun _ => by kernel_rfl) ?_)
        refine Xg.ops_op (by kernel_rfl) (Xg.opx_pure (.bool (!((some k').isSome))) rfl (fun _ => by kernel_rfl) ?_)
        refine Xg.ops_op (by kernel_rfl) (Xg.opx_pure ((Value.bool !(some k').isSome)) rfl (fun _ => by kernel_rfl) ?_)
        refine Xg.ops_nil ?_
        refine Xg.at_false (t := false) (by kernel_rfl) rfl ?_
        refine Xg.at_seq ?_
        refine Xg.at_draw [] [(6, [0, 1, 2, 3, 4, 5, 6], Xg.CellIs (rb) (((1 : Nat))) ((iv k'.bk)))] (by kernel_rfl) ?_
        refine Xg.any_pure ((iv (B.getD (328 : Nat) (0 : Int)))) 0 (by kernel_rfl) rfl (by kernel_rfl) (by kernel_rfl) (by kernel_rfl) (by kernel_rfl) rfl (fun _ => by kernel_rfl) ?_
        refine Xg.any_pure (.bool (decide (((B.getD (328 : Nat) (0 : Int)) : Int) > ((6 : Int))))) 1 (by kernel_rfl) rfl (by kernel_rfl) (by kernel_rfl) (by kernel_rfl) (by kernel_rfl) rfl (fun _ => by kernel_rfl) ?_
        refine Xg.any_pure ((Value.bool (decide (B.getD (328 : Nat) (0 : Int) > (6 : Int))))) 2 (by kernel_rfl) rfl (by kernel_rfl) (by kernel_rfl) (by kernel_rfl) (by kernel_rfl) rfl (fun _ => by kernel_rfl) ?_
        refine Xg.any_flag (j := 57) (c := (decide (B.getD (328 : Nat) (0 : Int) > (6 : Int)))) (by kernel_rfl) (fun xh1 => absurd (of_decide_eq_true xh1) (by omega)) (fun _ => ?_)
        refine Xg.any_pure ((iv (B.getD (328 : Nat) (0 : Int)))) 3 (by kernel_rfl) rfl (by kernel_rfl) (by kernel_rfl) (by kernel_rfl) (by kernel_rfl) rfl (fun _ => by kernel_rfl) ?_
        refine Xg.any_pure (.int .i64 (IntKind.wrap .i64 (((2 : Int)) * 2 ^ min (Int.toNat (B.getD (328 : Nat) (0 : Int))) (IntKind.bits .i64)))) 4 (by kernel_rfl) rfl (by kernel_rfl) (by kernel_rfl) (by kernel_rfl) (by kernel_rfl) rfl (fun _ => Xg.run_shl (k1 := .i64) (k2 := .i64) (m := ((2 : Int))) (e := (B.getD (328 : Nat) (0 : Int))) (by kernel_rfl) (by kernel_rfl) (by omega)) ?_
        refine Xg.any_pure ((pv rb 1)) 5 (by kernel_rfl) rfl (by kernel_rfl) (by kernel_rfl) (by kernel_rfl) (by kernel_rfl) rfl (fun _ => by kernel_rfl) ?_
        refine Xg.any_reads (iv k'.bk) 6 0 (by kernel_rfl) rfl (by kernel_rfl) (by kernel_rfl) (by kernel_rfl) (by kernel_rfl) rfl rfl (by kernel_rfl) (Xg.cell_now (b := rb) (off := ((1 : Nat))) 3 rfl (by kernel_rfl)) (fun _ h => Xg.run_load (by kernel_rfl) (by kernel_rfl) h) ?_
        refine Xg.any_pure (.bool (decide (((IntKind.i64.wrap ((2 : Int) * (2 : Int) ^ min (B.getD (328 : Nat) (0 : Int)).toNat IntKind.i64.bits)) : Int) > k'.bk))) 7 (by kernel_rfl) rfl (by kernel_rfl) (by kernel_rfl) (by kernel_rfl) (by kernel_rfl) rfl (fun _ => by kernel_rfl) ?_
        refine Xg.any_flag (j := 62) (c := (decide (IntKind.i64.wrap ((2 : Int) * (2 : Int) ^ min (B.getD (328 : Nat) (0 : Int)).toNat IntKind.i64.bits) > k'.bk))) (by kernel_rfl) (fun xh1 => absurd (of_decide_eq_true xh1) (by omega)) (fun _ => ?_)
        refine Xg.any_pure ((Value.bool false)) 8 (by kernel_rfl) rfl (by kernel_rfl) (by kernel_rfl) (by kernel_rfl) (by kernel_rfl) rfl (fun _ => by kernel_rfl) ?_
        refine Xg.any_pure ((Value.bool false)) 9 (by kernel_rfl) rfl (by kernel_rfl) (by kernel_rfl) (by kernel_rfl) (by kernel_rfl) rfl (fun _ => by kernel_rfl) ?_
        refine Xg.any_pure ((iv (B.getD (328 : Nat) (0 : Int)))) 10 (by kernel_rfl) rfl (by kernel_rfl) (by kernel_rfl) (by kernel_rfl) (by kernel_rfl) rfl (fun _ => by kernel_rfl) ?_
        refine Xg.any_pure (.int .i64 (IntKind.wrap .i64 (((2 : Int)) * 2 ^ min (Int.toNat (B.getD (328 : Nat) (0 : Int))) (IntKind.bits .i64)))) 11 (by kernel_rfl) rfl (by kernel_rfl) (by kernel_rfl) (by kernel_rfl) (by kernel_rfl) rfl (fun _ => Xg.run_shl (k1 := .i64) (k2 := .i64) (m := ((2 : Int))) (e := (B.getD (328 : Nat) (0 : Int))) (by kernel_rfl) (by kernel_rfl) (by omega)) ?_
        refine Xg.any_int .i64 (IntKind.wrap .i64 ((IntKind.i64.wrap ((2 : Int) * (2 : Int) ^ min (B.getD (328 : Nat) (0 : Int)).toNat IntKind.i64.bits) * (16384 : Int)))) 12 (by kernel_rfl) rfl (by kernel_rfl) (by kernel_rfl) (by kernel_rfl) (by kernel_rfl) rfl (fun _ => by kernel_rfl) (Xg.wrap_i64_in (by omega)) ?_
        refine Xg.any_pure ((Value.slice a n c)) 13 (by kernel_rfl) rfl (by kernel_rfl) (by kernel_rfl) (by kernel_rfl) (by kernel_rfl) rfl (fun _ => by kernel_rfl) ?_
        refine Xg.any_pure ((iv (↑n : Int))) 14 (by kernel_rfl) rfl (by kernel_rfl) (by kernel_rfl) (by kernel_rfl) (by kernel_rfl) rfl (fun _ => by kernel_rfl) ?_
        refine Xg.any_pure (.bool (!decide (((IntKind.i64.wrap ((2 : Int) * (2 : Int) ^ min (B.getD (328 : Nat) (0 : Int)).toNat IntKind.i64.bits) * (16384 : Int)) : Int) = ((↑n : Int))))) 15 (by kernel_rfl) rfl (by kernel_rfl) (by kernel_rfl) (by kernel_rfl) (by kernel_rfl) rfl (fun _ => by kernel_rfl) ?_
        refine Xg.any_flag (j := 70) (c := (!decide (IntKind.i64.wrap ((2 : Int) * (2 : Int) ^ min (B.getD (328 : Nat) (0 : Int)).toNat IntKind.i64.bits) * (16384 : Int) = (↑n : Int)))) (by kernel_rfl) (fun xh1 => absurd xh1 (by rw [decide_eq_true (p := (IntKind.i64.wrap ((2 : Int) * (2 : Int) ^ min (B.getD (328 : Nat) (0 : Int)).toNat IntKind.i64.bits) * (16384 : Int) = (↑n : Int))) (by omega)]; decide)) (fun _ => ?_)
        refine Xg.any_pure ((Value.bool false)) 16 (by kernel_rfl) rfl (by kernel_rfl) (by kernel_rfl) (by kernel_rfl) (by kernel_rfl) rfl (fun _ => by kernel_rfl) ?_
        refine Xg.any_pure ((Value.bool false)) 17 (by kernel_rfl) rfl (by kernel_rfl) (by kernel_rfl) (by kernel_rfl) (by kernel_rfl) rfl (fun _ => by kernel_rfl) ?_
        refine Xg.any_nil (by kernel_rfl) ?_
        refine Xg.at_false (t := false) (by kernel_rfl) rfl ?_
        refine Xg.at_seq ?_
        refine Xg.at_region ?_
        refine Xg.ops_op (by kernel_rfl) (Xg.opx_pure ((pv rb 2)) rfl (fun _ => by kernel_rfl) ?_)
        refine Xg.ops_op (by kernel_rfl) (Xg.opx_load (b := rb) (off := ((2 : Nat))) 3 (Value.slice ka k'.cl.length k'.cl.length) rfl (by kernel_rfl) (by kernel_rfl) (by kernel_rfl) ?_)
        refine Xg.ops_op (by kernel_rfl) (Xg.opx_pure ((iv (B.getD (329 : Nat) (0 : Int)))) rfl (fun _ => by kernel_rfl) ?_)
        refine Xg.ops_op (by kernel_rfl) (Xg.opx_call1' [2] [typS A2, A, mp mb IntKind.u8 (typL A2), row rb (48 : TypeId) [iv k'.mp, iv k'.bk, Value.slice ka k'.cl.length k'.cl.length, Value.bool k'.bt], row xb1 (29 : TypeId) [Value.string (St []), iv 0, iv 0, iv 0, iv 0, Value.bool false]] (fun _ => by kernel_rfl) (@hha ) (by kernel_rfl) (by kernel_rfl) (by kernel_rfl) ?_)
        refine Xg.ops_op (by kernel_rfl) (Xg.opx_pure (.bool true) rfl (fun _ => by kernel_rfl) ?_)
        refine Xg.ops_op (by kernel_rfl) (Xg.opx_pure ((Value.bool true)) rfl (fun _ => by kernel_rfl) ?_)
        refine Xg.ops_nil ?_
        refine Xg.at_true (t := true) (by kernel_rfl) rfl ?_
        refine Xg.at_region ?_
        refine Xg.ops_op (by kernel_rfl) (Xg.opx_pure ((iv 47)) rfl (fun _ => by kernel_rfl) ?_)
        refine Xg.ops_nil ?_
        refine Xg.at_inBlock ?_
        refine Xg.at_seq ?_
        refine Xg.at_seq ?_
        refine Xg.at_region ?_
        refine Xg.ops_op (by kernel_rfl) (Xg.opx_pure ((iv 47)) rfl (fun _ => by kernel_rfl) ?_)
        refine Xg.ops_op (by kernel_rfl) (Xg.opx_pure ((Value.bool true)) rfl (fun _ => by kernel_rfl) ?_)
        refine Xg.ops_nil ?_
        refine Xg.at_true (t := true) (by kernel_rfl) rfl ?_
        refine Xg.at_seq ?_
        refine Xg.at_region ?_
        refine Xg.ops_op (by kernel_rfl) (Xg.opx_pure ((Value.agg #[Value.string (ByteArray.mk #[]), iv 0, iv 0, iv 0, iv 0, Value.bool false])) rfl (fun _ => by kernel_rfl) ?_)
        refine Xg.ops_op (by kernel_rfl) (Xg.opx_pure ((iv 47)) rfl (fun _ => by kernel_rfl) ?_)
        refine Xg.ops_op (by kernel_rfl) (Xg.opx_storen 6 (off := 0) 4 [Value.string (ByteArray.mk #[]), iv 0, iv 0, iv 0, iv 0, Value.bool false] (by kernel_rfl) rfl (by kernel_rfl) (by kernel_rfl) rfl (by kernel_rfl) (Nat.le_of_ble_eq_true (by kernel_rfl)) ?_)
        refine Xg.ops_op (by kernel_rfl) (Xg.opx_pure ((iv 47)) rfl (fun _ => by kernel_rfl) ?_)
        refine Xg.ops_nil ?_
        refine Xg.at_ret_feed (v := (Value.tuple #[Value.agg #[Value.string (ByteArray.mk #[]), iv 0, iv 0, iv 0, iv 0, Value.bool false], iv 47])) [(Addr.mk xb1 (0 : Nat) none), (Addr.mk xb1 (1 : Nat) none), (Addr.mk xb1 (2 : Nat) none), (Addr.mk xb1 (3 : Nat) none), (Addr.mk xb1 (4 : Nat) none), (Addr.mk xb1 (5 : Nat) none)] [Value.string (ByteArray.mk #[]), iv 0, iv 0, iv 0, iv 0, Value.bool false] [1] [A] Go.Proofs.Tryd.func9 (by kernel_rfl) (Xg.cells_cons (b := xb1) (off := 0) 4 rfl (by kernel_rfl) (Xg.cells_cons (b := xb1) (off := 1) 4 rfl (by kernel_rfl) (Xg.cells_cons (b := xb1) (off := 2) 4 rfl (by kernel_rfl) (Xg.cells_cons (b := xb1) (off := 3) 4 rfl (by kernel_rfl) (Xg.cells_cons (b := xb1) (off := 4) 4 rfl (by kernel_rfl) (Xg.cells_cons (b := xb1) (off := 5) 4 rfl (by kernel_rfl) Xg.cells_nil)))))) (by kernel_rfl) (by kernel_rfl) ?_
        exact ⟨by kernel_rfl, by kernel_rfl⟩)
    rw [if_neg h7] at hck
    rw [decide_eq_true (Decidable.not_not.1 h7)] at hha
    have hR2 := reads_mid1 hR 308 15 (by omega) hc
    have hti := title_d A _ 15 (c - 308) ((B.drop 308).take 15) (by rw [List.length_take, List.length_drop]; omega) (by omega) (by omega) (isB_take _ (isB_drop _ hB)) hR2
    have h9 := hcd _ (Decidable.not_not.1 h7)
    obtain ⟨tt, htt⟩ : ∃ tt, tit ((B.drop 308).take 15) = tt := ⟨_, rfl⟩
    have hv : hdB B k' = ⟨tt, B.getD 327 0, k'.mp, bn, if k'.mp = 2 then 512 else rmC (B.getD 329 0), k'.bt⟩ := by
      unfold hdB; rw [htt, hbn]
    rw [htt] at hti
    rw [hck, hv]
    (focus
      refine Xg.at_seq ?_
      refine Xg.at_draw [] [(1, [0, 1, 4, 5, 6, 7], (RdIs (1 : Nat) (Value.slice a n c) n (List.map (Value.int IntKind.u8) B))), (2, [0, 1, 2, 4, 5, 6, 7], (RdIs (1 : Nat) (Value.slice a n c) n (List.map (Value.int IntKind.u8) B))), (5, [0, 1, 2, 3, 4, 5, 8], (RdIs (1 : Nat) (Value.slice a n c) n (List.map (Value.int IntKind.u8) B))), (6, [0, 1, 2, 3, 4, 5, 6, 8], (RdIs (1 : Nat) (Value.slice a n c) n (List.map (Value.int IntKind.u8) B)))] (by kernel_rfl) ?_
      refine Xg.any_pure ((Value.slice a n c)) 0 (by kernel_rfl) rfl (by kernel_rfl) (by kernel_rfl) (by kernel_rfl) (by kernel_rfl) rfl (fun _ => by kernel_rfl) ?_
      refine Xg.any_reads (.pointer (some (Addr.mk (Xg.blk a) (offA a + (328 : Nat)) none))) 1 0 (by kernel_rfl) rfl (by kernel_rfl) (by kernel_rfl) (by kernel_rfl) (by kernel_rfl) rfl rfl (by kernel_rfl) (Xg.rd_now 4 hR (by kernel_rfl)) (Xg.run_ix_rd (elem := 5) (kd := .i64) (e := ((328 : Int))) 1 ((328 : Nat)) (offA a + (328 : Nat)) (by kernel_rfl) (by kernel_rfl) (by kernel_rfl) (by kernel_rfl) rfl (by omega) (by simp only [List.length_map]; omega) (by omega)) ?_
      refine Xg.any_reads (uv (B.getD (328 : Nat) (0 : Int))) 2 1 (by kernel_rfl) rfl (by kernel_rfl) (by kernel_rfl) (by kernel_rfl) (by kernel_rfl) rfl rfl (by kernel_rfl) (Xg.rd_now 4 hR (by kernel_rfl)) (Xg.run_load_rd (off0 := (offA a + (328 : Nat))) ((328 : Nat)) (by kernel_rfl) (by omega) (Xg.get_ints (by omega)) (by kernel_rfl)) ?_
      refine Xg.any_int .i64 (IntKind.wrap .i64 ((B.getD (328 : Nat) (0 : Int)))) 3 (by kernel_rfl) rfl (by kernel_rfl) (by kernel_rfl) (by kernel_rfl) (by kernel_rfl) rfl (fun _ => by kernel_rfl) (Xg.wrap_i64_in (by omega)) ?_
      refine Xg.any_pure ((Value.slice a n c)) 4 (by kernel_rfl) rfl (by kernel_rfl) (by kernel_rfl) (by kernel_rfl) (by kernel_rfl) rfl (fun _ => by kernel_rfl) ?_
      refine Xg.any_reads (.pointer (some (Addr.mk (Xg.blk a) (offA a + (329 : Nat)) none))) 5 2 (by kernel_rfl) rfl (by kernel_rfl) (by kernel_rfl) (by kernel_rfl) (by kernel_rfl) rfl rfl (by kernel_rfl) (Xg.rd_now 4 hR (by kernel_rfl)) (Xg.run_ix_rd (elem := 5) (kd := .i64) (e := ((329 : Int))) 1 ((329 : Nat)) (offA a + (329 : Nat)) (by kernel_rfl) (by kernel_rfl) (by kernel_rfl) (by kernel_rfl) rfl (by omega) (by simp only [List.length_map]; omega) (by omega)) ?_
      refine Xg.any_reads (uv (B.getD (329 : Nat) (0 : Int))) 6 3 (by kernel_rfl) rfl (by kernel_rfl) (by kernel_rfl) (by kernel_rfl) (by kernel_rfl) rfl rfl (by kernel_rfl) (Xg.rd_now 4 hR (by kernel_rfl)) (Xg.run_load_rd (off0 := (offA a + (329 : Nat))) ((329 : Nat)) (by kernel_rfl) (by omega) (Xg.get_ints (by omega)) (by kernel_rfl)) ?_
      refine Xg.any_int .i64 (IntKind.wrap .i64 ((B.getD (329 : Nat) (0 : Int)))) 7 (by kernel_rfl) rfl (by kernel_rfl) (by kernel_rfl) (by kernel_rfl) (by kernel_rfl) rfl (fun _ => by kernel_rfl) (Xg.wrap_i64_in (by omega)) ?_
      refine Xg.any_pure ((iv (B.getD (328 : Nat) (0 : Int)))) 8 (by kernel_rfl) rfl (by kernel_rfl) (by kernel_rfl) (by kernel_rfl) (by kernel_rfl) rfl (fun _ => by kernel_rfl) ?_
      refine Xg.any_pure ((iv (B.getD (329 : Nat) (0 : Int)))) 9 (by kernel_rfl) rfl (by kernel_rfl) (by kernel_rfl) (by kernel_rfl) (by kernel_rfl) rfl (fun _ => by kernel_rfl) ?_
      refine Xg.any_nil (by kernel_rfl) ?_
      refine Xg.at_seq ?_)
    obtain ⟨q9, hq9⟩ : ∃ q : Nat, B.getD 329 0 = (q : Int) := ⟨(B.getD 329 0).toNat, by omega⟩
    rw [hq9] at hha h9 ⊢
    have hrl := ram_list q9 h9
    by_cases hm2 : k'.mp = 2
    · rw [if_pos hm2]
      (focus
        refine Xg.at_region ?_
        refine Xg.ops_op (by kernel_rfl) (Xg.opx_pure ((iv 0)) rfl (fun _ => by kernel_rfl) ?_)
        refine Xg.ops_nil ?_
        refine Xg.at_seq ?_
        refine Xg.at_block ?_
        refine Xg.at_seq ?_
        refine Xg.at_region ?_
        refine Xg.ops_op (by kernel_rfl) (Xg.opx_pure ((Value.slice a n c)) rfl (fun _ => by kernel_rfl) ?_)
        refine Xg.ops_op (by kernel_rfl) (Xg.opx_call1' [4] [A, mp mb IntKind.u8 (typL A2), typS A2, row rb (48 : TypeId) [iv k'.mp, iv k'.bk, Value.slice ka k'.cl.length k'.cl.length, Value.bool k'.bt], row xb1 (29 : TypeId) [Value.string (St []), iv 0, iv 0, iv 0, iv 0, Value.bool false]] (fun _ => by kernel_rfl) (@hmk ) (by kernel_rfl) (by kernel_rfl) (by kernel_rfl) ?_)
        refine Xg.ops_op (by kernel_rfl) (Xg.opx_pure (.bool false) rfl (fun _ => by kernel_rfl) ?_)
        refine Xg.ops_op (by kernel_rfl) (Xg.opx_pure ((Value.bool false)) rfl (fun _ => by kernel_rfl) ?_)
        refine Xg.ops_nil ?_
        refine Xg.at_false (t := false) (by kernel_rfl) rfl ?_
        refine Xg.at_seq ?_
        refine Xg.at_draw [1] [(3, [0, 1, 2, 3], (RdIs (1 : Nat) (Value.slice a n c) n (List.map (Value.int IntKind.u8) B))), (4, [0, 1, 2, 3, 4], (RdIs (1 : Nat) (Value.slice a n c) n (List.map (Value.int IntKind.u8) B)))] (by kernel_rfl) ?_
        refine Xg.any_pure ((Value.slice a n c)) 0 (by kernel_rfl) rfl (by kernel_rfl) (by kernel_rfl) (by kernel_rfl) (by kernel_rfl) rfl (fun _ => by kernel_rfl) ?_
        refine Xg.any_pure ((Value.slice a n c)) 2 (by kernel_rfl) rfl (by kernel_rfl) (by kernel_rfl) (by kernel_rfl) (by kernel_rfl) rfl (fun _ => by kernel_rfl) ?_
        refine Xg.any_reads (.pointer (some (Addr.mk (Xg.blk a) (offA a + (333 : Nat)) none))) 3 0 (by kernel_rfl) rfl (by kernel_rfl) (by kernel_rfl) (by kernel_rfl) (by kernel_rfl) rfl rfl (by kernel_rfl) (Xg.rd_now 0 hR (by kernel_rfl)) (Xg.run_ix_rd (elem := 5) (kd := .i64) (e := ((333 : Int))) 1 ((333 : Nat)) (offA a + (333 : Nat)) (by kernel_rfl) (by kernel_rfl) (by kernel_rfl) (by kernel_rfl) rfl (by omega) (by simp only [List.length_map]; omega) (by omega)) ?_
        refine Xg.any_reads (uv (B.getD (333 : Nat) (0 : Int))) 4 1 (by kernel_rfl) rfl (by kernel_rfl) (by kernel_rfl) (by kernel_rfl) (by kernel_rfl) rfl rfl (by kernel_rfl) (Xg.rd_now 0 hR (by kernel_rfl)) (Xg.run_load_rd (off0 := (offA a + (333 : Nat))) ((333 : Nat)) (by kernel_rfl) (by omega) (Xg.get_ints (by omega)) (by kernel_rfl)) ?_
        refine Xg.any_each [1] (by kernel_rfl) rfl ⟨?_, trivial⟩
        refine Xg.comes_act rfl (by kernel_rfl) (by kernel_rfl) (Xg.opx_call1' [0] [A, mp mb IntKind.u8 (typL A2), typS A2, row rb (48 : TypeId) [iv k'.mp, iv k'.bk, Value.slice ka k'.cl.length k'.cl.length, Value.bool k'.bt], row xb1 (29 : TypeId) [Value.string (St []), iv 0, iv 0, iv 0, iv 0, Value.bool false]] (fun _ => by kernel_rfl) (@hsm ) (by kernel_rfl) (by kernel_rfl) (by kernel_rfl) ?_)
        refine Xg.acts (Xg.owes_rd 0 hR (by kernel_rfl) (Xg.owes_rd 0 hR (by kernel_rfl) Xg.owes_nil)) ?_
        refine Xg.any_pure (.bool (!decide (((((231 : Int) - hsum B (25 : Nat)) % (256 : Int)) : Int) = (B.getD (333 : Nat) (0 : Int))))) 5 (by kernel_rfl) rfl (by kernel_rfl) (by kernel_rfl) (by kernel_rfl) (by kernel_rfl) rfl (fun _ => by kernel_rfl) ?_
        refine Xg.any_pure ((Value.bool !decide (((231 : Int) - hsum B (25 : Nat)) % (256 : Int) = B.getD (333 : Nat) (0 : Int)))) 6 (by kernel_rfl) rfl (by kernel_rfl) (by kernel_rfl) (by kernel_rfl) (by kernel_rfl) rfl (fun _ => by kernel_rfl) ?_
        refine Xg.any_nil (by kernel_rfl) ?_
        refine Xg.at_false (t := !decide ((((231 : Int) - hsum B (25 : Nat)) % (256 : Int) = B.getD (333 : Nat) (0 : Int)))) (by kernel_rfl) (by rw [decide_eq_true (by omega)]; rfl) ?_
        refine Xg.at_seq ?_
        refine Xg.at_region ?_
        refine Xg.ops_op (by kernel_rfl) (Xg.opx_pure ((Value.slice a n c)) rfl (fun _ => by kernel_rfl) ?_)
        refine Xg.ops_op (by kernel_rfl) (Xg.opx_rd 0 (.pointer (some (Addr.mk (Xg.blk a) (offA a + (323 : Nat)) none))) rfl hR (by kernel_rfl) (Xg.run_ix_rd (elem := 5) (kd := .i64) (e := ((323 : Int))) 1 ((323 : Nat)) (offA a + (323 : Nat)) (by kernel_rfl) (by kernel_rfl) (by kernel_rfl) (by kernel_rfl) rfl (by omega) (by simp only [List.length_map]; omega) (by omega)) ?_)
        refine Xg.ops_op (by kernel_rfl) (Xg.opx_rd 0 (uv (B.getD (323 : Nat) (0 : Int))) rfl hR (by kernel_rfl) (Xg.run_load_rd (off0 := (offA a + (323 : Nat))) ((323 : Nat)) (by kernel_rfl) (by omega) (Xg.get_ints (by omega)) (by kernel_rfl)) ?_)
        refine Xg.ops_op (by kernel_rfl) (Xg.opx_pure (.bool (decide (((B.getD (323 : Nat) (0 : Int)) : Int) = ((192 : Int))))) rfl (fun _ => by kernel_rfl) ?_)
        refine Xg.ops_op (by kernel_rfl) (Xg.opx_pure ((Value.bool (decide (B.getD (323 : Nat) (0 : Int) = (192 : Int))))) rfl (fun _ => by kernel_rfl) ?_)
        refine Xg.ops_nil ?_
        refine Xg.at_false (t := decide ((B.getD (323 : Nat) (0 : Int) = (192 : Int)))) (by kernel_rfl) (decide_eq_false (by omega)) ?_
        refine Xg.at_seq ?_
        refine Xg.at_region ?_
        refine Xg.ops_op (by kernel_rfl) (Xg.opx_pure ((Value.bool (some k').isSome)) rfl (fun _ => by kernel_rfl) ?_)
        refine Xg.ops_op (by kernel_rfl) (Xg.opx_pure (.bool (!((some k').isSome))) rfl (fun _ => by kernel_rfl) ?_)
        refine Xg.ops_op (by kernel_rfl) (Xg.opx_pure ((Value.bool !(some k').isSome)) rfl (fun _ => by kernel_rfl) ?_)
        refine Xg.ops_nil ?_
        refine Xg.at_false (t := false) (by kernel_rfl) rfl ?_
        refine Xg.at_seq ?_
        refine Xg.at_draw [] [(6, [0, 1, 2, 3, 4, 5, 6], Xg.CellIs (rb) (((1 : Nat))) ((iv k'.bk)))] (by kernel_rfl) ?_
        refine Xg.any_pure ((iv (B.getD (328 : Nat) (0 : Int)))) 0 (by kernel_rfl) rfl (by kernel_rfl) (by kernel_rfl) (by kernel_rfl) (by kernel_rfl) rfl (fun _ => by kernel_rfl) ?_
        refine Xg.any_pure (.bool (decide (((B.getD (328 : Nat) (0 : Int)) : Int) > ((6 : Int))))) 1 (by kernel_rfl) rfl (by kernel_rfl) (by kernel_rfl) (by kernel_rfl) (by kernel_rfl) rfl (fun _ => by kernel_rfl) ?_
        refine Xg.any_pure ((Value.bool (decide (B.getD (328 : Nat) (0 : Int) > (6 : Int))))) 2 (by kernel_rfl) rfl (by kernel_rfl) (by kernel_rfl) (by kernel_rfl) (by kernel_rfl) rfl (fun _ => by kernel_rfl) ?_
        refine Xg.any_flag (j := 57) (c := (decide (B.getD (328 : Nat) (0 : Int) > (6 : Int)))) (by kernel_rfl) (fun xh1 => absurd (of_decide_eq_true xh1) (by omega)) (fun _ => ?_)
        refine Xg.any_pure ((iv (B.getD (328 : Nat) (0 : Int)))) 3 (by kernel_rfl) rfl (by kernel_rfl) (by kernel_rfl) (by kernel_rfl) (by kernel_rfl) rfl (fun _ => by kernel_rfl) ?_
        refine Xg.any_pure (.int .i64 (IntKind.wrap .i64 (((2 : Int)) * 2 ^ min (Int.toNat (B.getD (328 : Nat) (0 : Int))) (IntKind.bits .i64)))) 4 (by kernel_rfl) rfl (by kernel_rfl) (by kernel_rfl) (by kernel_rfl) (by kernel_rfl) rfl (fun _ => Xg.run_shl (k1 := .i64) (k2 := .i64) (m := ((2 : Int))) (e := (B.getD (328 : Nat) (0 : Int))) (by kernel_rfl) (by kernel_rfl) (by omega)) ?_
        refine Xg.any_pure ((pv rb 1)) 5 (by kernel_rfl) rfl (by kernel_rfl) (by kernel_rfl) (by kernel_rfl) (by kernel_rfl) rfl (fun _ => by kernel_rfl) ?_
        refine Xg.any_reads (iv k'.bk) 6 0 (by kernel_rfl) rfl (by kernel_rfl) (by kernel_rfl) (by kernel_rfl) (by kernel_rfl) rfl rfl (by kernel_rfl) (Xg.cell_now (b := rb) (off := ((1 : Nat))) 3 rfl (by kernel_rfl)) (fun _ h => Xg.run_load (by kernel_rfl) (by kernel_rfl) h) ?_
        refine Xg.any_pure (.bool (decide (((IntKind.i64.wrap ((2 : Int) * (2 : Int) ^ min (B.getD (328 : Nat) (0 : Int)).toNat IntKind.i64.bits)) : Int) > k'.bk))) 7 (by kernel_rfl) rfl (by kernel_rfl) (by kernel_rfl) (by kernel_rfl) (by kernel_rfl) rfl (fun _ => by kernel_rfl) ?_
        refine Xg.any_flag (j := 62) (c := (decide (IntKind.i64.wrap ((2 : Int) * (2 : Int) ^ min (B.getD (328 : Nat) (0 : Int)).toNat IntKind.i64.bits) > k'.bk))) (by kernel_rfl) (fun xh1 => absurd (of_decide_eq_true xh1) (by omega)) (fun _ => ?_)
        refine Xg.any_pure ((Value.bool false)) 8 (by kernel_rfl) rfl (by kernel_rfl) (by kernel_rfl) (by kernel_rfl) (by kernel_rfl) rfl (fun _ => by kernel_rfl) ?_
        refine Xg.any_pure ((Value.bool false)) 9 (by kernel_rfl) rfl (by kernel_rfl) (by kernel_rfl) (by kernel_rfl) (by kernel_rfl) rfl (fun _ => by kernel_rfl) ?_
        refine Xg.any_pure ((iv (B.getD (328 : Nat) (0 : Int)))) 10 (by kernel_rfl) rfl (by kernel_rfl) (by kernel_rfl) (by kernel_rfl) (by kernel_rfl) rfl (fun _ => by kernel_rfl) ?_
        refine Xg.any_pure (.int .i64 (IntKind.wrap .i64 (((2 : Int)) * 2 ^ min (Int.toNat (B.getD (328 : Nat) (0 : Int))) (IntKind.bits .i64)))) 11 (by kernel_rfl) rfl (by kernel_rfl) (by kernel_rfl) (by kernel_rfl) (by kernel_rfl) rfl (fun _ => Xg.run_shl (k1 := .i64) (k2 := .i64) (m := ((2 : Int))) (e := (B.getD (328 : Nat) (0 : Int))) (by kernel_rfl) (by kernel_rfl) (by omega)) ?_
        refine Xg.any_int .i64 (IntKind.wrap .i64 ((IntKind.i64.wrap ((2 : Int) * (2 : Int) ^ min (B.getD (328 : Nat) (0 : Int)).toNat IntKind.i64.bits) * (16384 : Int)))) 12 (by kernel_rfl) rfl (by kernel_rfl) (by kernel_rfl) (by kernel_rfl) (by kernel_rfl) rfl (fun _ => by kernel_rfl) (Xg.wrap_i64_in (by omega)) ?_
        refine Xg.any_pure ((Value.slice a n c)) 13 (by kernel_rfl) rfl (by kernel_rfl) (by kernel_rfl) (by kernel_rfl) (by kernel_rfl) rfl (fun _ => by kernel_rfl) ?_
        refine Xg.any_pure ((iv (↑n : Int))) 14 (by kernel_rfl) rfl (by kernel_rfl) (by kernel_rfl) (by kernel_rfl) (by kernel_rfl) rfl (fun _ => by kernel_rfl) ?_
        refine Xg.any_pure (.bool (!decide (((IntKind.i64.wrap ((2 : Int) * (2 : Int) ^ min (B.getD (328 : Nat) (0 : Int)).toNat IntKind.i64.bits) * (16384 : Int)) : Int) = ((↑n : Int))))) 15 (by kernel_rfl) rfl (by kernel_rfl) (by kernel_rfl) (by kernel_rfl) (by kernel_rfl) rfl (fun _ => by kernel_rfl) ?_
        refine Xg.any_flag (j := 70) (c := (!decide (IntKind.i64.wrap ((2 : Int) * (2 : Int) ^ min (B.getD (328 : Nat) (0 : Int)).toNat IntKind.i64.bits) * (16384 : Int) = (↑n : Int)))) (by kernel_rfl) (fun xh1 => absurd xh1 (by rw [decide_eq_true (p := (IntKind.i64.wrap ((2 : Int) * (2 : Int) ^ min (B.getD (328 : Nat) (0 : Int)).toNat IntKind.i64.bits) * (16384 : Int) = (↑n : Int))) (by omega)]; decide)) (fun _ => ?_)
        refine Xg.any_pure ((Value.bool false)) 16 (by kernel_rfl) rfl (by kernel_rfl) (by kernel_rfl) (by kernel_rfl) (by kernel_rfl) rfl (fun _ => by kernel_rfl) ?_
        refine Xg.any_pure ((Value.bool false)) 17 (by kernel_rfl) rfl (by kernel_rfl) (by kernel_rfl) (by kernel_rfl) (by kernel_rfl) rfl (fun _ => by kernel_rfl) ?_
        refine Xg.any_nil (by kernel_rfl) ?_
        refine Xg.at_false (t := false) (by kernel_rfl) rfl ?_
        refine Xg.at_seq ?_
        refine Xg.at_region ?_
        refine Xg.ops_op (by kernel_rfl) (Xg.opx_pure ((pv rb 2)) rfl (fun _ => by kernel_rfl) ?_)
        refine Xg.ops_op (by kernel_rfl) (Xg.opx_load (b := rb) (off := ((2 : Nat))) 3 (Value.slice ka k'.cl.length k'.cl.length) rfl (by kernel_rfl) (by kernel_rfl) (by kernel_rfl) ?_)
        refine Xg.ops_op (by kernel_rfl) (Xg.opx_pure ((iv (↑q9 : Int))) rfl (fun _ => by kernel_rfl) ?_)
        refine Xg.ops_op (by kernel_rfl) (Xg.opx_call1' [2] [typS A2, A, mp mb IntKind.u8 (typL A2), row rb (48 : TypeId) [iv k'.mp, iv k'.bk, Value.slice ka k'.cl.length k'.cl.length, Value.bool k'.bt], row xb1 (29 : TypeId) [Value.string (St []), iv 0, iv 0, iv 0, iv 0, Value.bool false]] (fun _ => by kernel_rfl) (@hha ) (by kernel_rfl) (by kernel_rfl) (by kernel_rfl) ?_)
        refine Xg.ops_op (by kernel_rfl) (Xg.opx_pure (.bool false) rfl (fun _ => by kernel_rfl) ?_)
        refine Xg.ops_op (by kernel_rfl) (Xg.opx_pure ((Value.bool false)) rfl (fun _ => by kernel_rfl) ?_)
        refine Xg.ops_nil ?_
        refine Xg.at_false (t := false) (by kernel_rfl) rfl ?_
        refine Xg.at_skip ?_
        refine Xg.at_inBlock ?_
        refine Xg.at_seq ?_
        refine Xg.at_seq ?_
        refine Xg.at_region ?_
        refine Xg.ops_op (by kernel_rfl) (Xg.opx_pure ((iv 0)) rfl (fun _ => by kernel_rfl) ?_)
        refine Xg.ops_op (by kernel_rfl) (Xg.opx_pure ((Value.bool false)) rfl (fun _ => by kernel_rfl) ?_)
        refine Xg.ops_nil ?_
        refine Xg.at_false (t := false) (by kernel_rfl) rfl ?_
        refine Xg.at_skip ?_
        refine Xg.at_seq ?_
        refine Xg.at_draw [2, 11, 13, 14, 18, 19] [(4, [0, 1, 2, 3, 4, 7, 8, 9, 10, 11, 12, 13, 14, 15, 16, 18], (RdIs (1 : Nat) (Value.slice a n c) n (List.map (Value.int IntKind.u8) B))), (5, [0, 1, 2, 3, 4, 5, 7, 8, 9, 10, 11, 12, 13, 14, 15, 16, 18], (RdIs (1 : Nat) (Value.slice a n c) n (List.map (Value.int IntKind.u8) B))), (8, [0, 1, 2, 3, 4, 5, 6, 7, 8, 9, 10, 11, 12, 13, 14, 15, 16, 18], Xg.CellIs (rb) (((0 : Nat))) ((iv k'.mp))), (16, [0, 1, 2, 3, 4, 5, 6, 7, 8, 9, 10, 11, 12, 13, 14, 15, 16, 18], Xg.CellIs (rb) (((3 : Nat))) ((Value.bool k'.bt)))] (by kernel_rfl) ?_
        refine Xg.any_pure ((Value.slice a n c)) 0 (by kernel_rfl) rfl (by kernel_rfl) (by kernel_rfl) (by kernel_rfl) (by kernel_rfl) rfl (fun _ => by kernel_rfl) ?_
        refine Xg.any_pure (.slice (Xg.subA a c ((308 : Nat)) 1) (((323 : Nat)) - ((308 : Nat))) (c - ((308 : Nat)))) 1 (by kernel_rfl) rfl (by kernel_rfl) (by kernel_rfl) (by kernel_rfl) (by kernel_rfl) rfl (Xg.run_sl (elem := 5) (a := a) (c := c) (len := n) (k1 := .i64) (k2 := .i64) (e1 := ((308 : Int))) (e2 := ((323 : Int))) 1 ((308 : Nat)) ((323 : Nat)) (by kernel_rfl) (by kernel_rfl) (by kernel_rfl) (by kernel_rfl) (by kernel_rfl) rfl rfl (by omega) (by omega)) ?_
        refine Xg.any_pure ((Value.slice a n c)) 3 (by kernel_rfl) rfl (by kernel_rfl) (by kernel_rfl) (by kernel_rfl) (by kernel_rfl) rfl (fun _ => by kernel_rfl) ?_
        refine Xg.any_reads (.pointer (some (Addr.mk (Xg.blk a) (offA a + (327 : Nat)) none))) 4 0 (by kernel_rfl) rfl (by kernel_rfl) (by kernel_rfl) (by kernel_rfl) (by kernel_rfl) rfl rfl (by kernel_rfl) (Xg.rd_now 1 hR (by kernel_rfl)) (Xg.run_ix_rd (elem := 5) (kd := .i64) (e := ((327 : Int))) 1 ((327 : Nat)) (offA a + (327 : Nat)) (by kernel_rfl) (by kernel_rfl) (by kernel_rfl) (by kernel_rfl) rfl (by omega) (by simp only [List.length_map]; omega) (by omega)) ?_
        refine Xg.any_reads (uv (B.getD (327 : Nat) (0 : Int))) 5 1 (by kernel_rfl) rfl (by kernel_rfl) (by kernel_rfl) (by kernel_rfl) (by kernel_rfl) rfl rfl (by kernel_rfl) (Xg.rd_now 1 hR (by kernel_rfl)) (Xg.run_load_rd (off0 := (offA a + (327 : Nat))) ((327 : Nat)) (by kernel_rfl) (by omega) (Xg.get_ints (by omega)) (by kernel_rfl)) ?_
        refine Xg.any_int .i64 (IntKind.wrap .i64 ((B.getD (327 : Nat) (0 : Int)))) 6 (by kernel_rfl) rfl (by kernel_rfl) (by kernel_rfl) (by kernel_rfl) (by kernel_rfl) rfl (fun _ => by kernel_rfl) (Xg.wrap_i64_in (by omega)) ?_
        refine Xg.any_pure ((pv rb 0)) 7 (by kernel_rfl) rfl (by kernel_rfl) (by kernel_rfl) (by kernel_rfl) (by kernel_rfl) rfl (fun _ => by kernel_rfl) ?_
        refine Xg.any_reads (iv k'.mp) 8 2 (by kernel_rfl) rfl (by kernel_rfl) (by kernel_rfl) (by kernel_rfl) (by kernel_rfl) rfl rfl (by kernel_rfl) (Xg.cell_now (b := rb) (off := ((0 : Nat))) 3 rfl (by kernel_rfl)) (fun _ h => Xg.run_load (by kernel_rfl) (by kernel_rfl) h) ?_
        refine Xg.any_pure ((iv (B.getD (328 : Nat) (0 : Int)))) 9 (by kernel_rfl) rfl (by kernel_rfl) (by kernel_rfl) (by kernel_rfl) (by kernel_rfl) rfl (fun _ => by kernel_rfl) ?_
        refine Xg.any_pure (.int .i64 (IntKind.wrap .i64 (((2 : Int)) * 2 ^ min (Int.toNat (B.getD (328 : Nat) (0 : Int))) (IntKind.bits .i64)))) 10 (by kernel_rfl) rfl (by kernel_rfl) (by kernel_rfl) (by kernel_rfl) (by kernel_rfl) rfl (fun _ => Xg.run_shl (k1 := .i64) (k2 := .i64) (m := ((2 : Int))) (e := (B.getD (328 : Nat) (0 : Int))) (by kernel_rfl) (by kernel_rfl) (by omega)) ?_
        refine Xg.any_pure ((iv (↑q9 : Int))) 12 (by kernel_rfl) rfl (by kernel_rfl) (by kernel_rfl) (by kernel_rfl) (by kernel_rfl) rfl (fun _ => by kernel_rfl) ?_
        refine Xg.any_pure ((pv rb 3)) 15 (by kernel_rfl) rfl (by kernel_rfl) (by kernel_rfl) (by kernel_rfl) (by kernel_rfl) rfl (fun _ => by kernel_rfl) ?_
        refine Xg.any_reads (Value.bool k'.bt) 16 3 (by kernel_rfl) rfl (by kernel_rfl) (by kernel_rfl) (by kernel_rfl) (by kernel_rfl) rfl rfl (by kernel_rfl) (Xg.cell_now (b := rb) (off := ((3 : Nat))) 3 rfl (by kernel_rfl)) (fun _ h => Xg.run_load (by kernel_rfl) (by kernel_rfl) h) ?_
        refine Xg.any_each [2, 18] (by kernel_rfl) rfl ⟨?_, ?_, trivial⟩
        refine Xg.comes_act rfl (by kernel_rfl) (by kernel_rfl) (Xg.opx_call1' [1] [A, typS A2, mp mb IntKind.u8 (typL A2), row rb (48 : TypeId) [iv k'.mp, iv k'.bk, Value.slice ka k'.cl.length k'.cl.length, Value.bool k'.bt], row xb1 (29 : TypeId) [Value.string (St []), iv 0, iv 0, iv 0, iv 0, Value.bool false]] (fun _ => by kernel_rfl) (@hti ) (by kernel_rfl) (by kernel_rfl) (by kernel_rfl) ?_)
        refine Xg.acts (Xg.owes_rd 0 hR (by kernel_rfl) (Xg.owes_rd 0 hR (by kernel_rfl) (Xg.owes_cell 3 rfl (by kernel_rfl) (Xg.owes_cell 3 rfl (by kernel_rfl) Xg.owes_nil)))) ?_
        rotate_left
        refine Xg.comes_act rfl (by kernel_rfl) (by kernel_rfl) (Xg.opx_new 6 [Value.string (ByteArray.mk #[]), iv 0, iv 0, iv 0, iv 0, Value.bool false] (by kernel_rfl) (by kernel_rfl) fun xb2 => ?_)
        refine Xg.acts (Xg.owes_rd 2 hR (by kernel_rfl) (Xg.owes_rd 2 hR (by kernel_rfl) (Xg.owes_cell 4 rfl (by kernel_rfl) (Xg.owes_cell 4 rfl (by kernel_rfl) Xg.owes_nil)))) ?_
        rotate_left
        refine Xg.any_each [11, 18] (by kernel_rfl) rfl ⟨?_, ?_, trivial⟩
        refine Xg.comes_act rfl (by kernel_rfl) (by kernel_rfl) (Xg.opx_callE' [] (fun xx1 => [ownS (3 : TypeId) (1 : Nat) (Value.slice xx1.fst (6 : Nat) (6 : Nat)) (6 : Nat) (List.map (Value.int IntKind.i64) xx1.snd), A, typS A2, mp mb IntKind.u8 (typL A2), row rb (48 : TypeId) [iv k'.mp, iv k'.bk, Value.slice ka k'.cl.length k'.cl.length, Value.bool k'.bt], row xb1 (29 : TypeId) [Value.string (St []), iv 0, iv 0, iv 0, iv 0, Value.bool false]]) (fun _ => by kernel_rfl) (@Go.Proofs.YthjhkondmobaeaaDoor.rams_o ) (by kernel_rfl) (by kernel_rfl) (by kernel_rfl) fun xx1 xh1 => ?_)
        try dsimp only at xh1
        obtain ⟨xh1_0, xh1_1⟩ := xh1
        refine Xg.acts (Xg.owes_rd 1 hR (by kernel_rfl) (Xg.owes_rd 1 hR (by kernel_rfl) (Xg.owes_cell 4 rfl (by kernel_rfl) (Xg.owes_cell 4 rfl (by kernel_rfl) Xg.owes_nil)))) ?_
        rotate_left
        refine Xg.comes_act rfl (by kernel_rfl) (by kernel_rfl) (Xg.opx_new 6 [Value.string (ByteArray.mk #[]), iv 0, iv 0, iv 0, iv 0, Value.bool false] (by kernel_rfl) (by kernel_rfl) fun xb2 => ?_)
        refine Xg.acts (Xg.owes_rd 1 hR (by kernel_rfl) (Xg.owes_rd 1 hR (by kernel_rfl) (Xg.owes_cell 4 rfl (by kernel_rfl) (Xg.owes_cell 4 rfl (by kernel_rfl) Xg.owes_nil)))) ?_
        rotate_left
        refine Xg.any_each [2] (by kernel_rfl) rfl ⟨?_, trivial⟩
        refine Xg.comes_act rfl (by kernel_rfl) (by kernel_rfl) (Xg.opx_call1' [2] [A, row xb2 (29 : Nat) [Value.string (ByteArray.mk #[]), iv 0, iv 0, iv 0, iv 0, Value.bool false], typS A2, mp mb IntKind.u8 (typL A2), row rb (48 : TypeId) [iv k'.mp, iv k'.bk, Value.slice ka k'.cl.length k'.cl.length, Value.bool k'.bt], row xb1 (29 : TypeId) [Value.string (St []), iv 0, iv 0, iv 0, iv 0, Value.bool false]] (fun _ => by kernel_rfl) (@hti ) (by kernel_rfl) (by kernel_rfl) (by kernel_rfl) ?_)
        refine Xg.acts (Xg.owes_rd 0 hR (by kernel_rfl) (Xg.owes_rd 0 hR (by kernel_rfl) (Xg.owes_cell 4 rfl (by kernel_rfl) (Xg.owes_cell 4 rfl (by kernel_rfl) Xg.owes_nil)))) ?_
        refine Xg.any_each [11] (by kernel_rfl) rfl ⟨?_, trivial⟩
        refine Xg.comes_act rfl (by kernel_rfl) (by kernel_rfl) (Xg.opx_callE' [] (fun xx1 => [ownS (3 : TypeId) (1 : Nat) (Value.slice xx1.fst (6 : Nat) (6 : Nat)) (6 : Nat) (List.map (Value.int IntKind.i64) xx1.snd), A, row xb2 (29 : Nat) [Value.string (ByteArray.mk #[]), iv 0, iv 0, iv 0, iv 0, Value.bool false], typS A2, mp mb IntKind.u8 (typL A2), row rb (48 : TypeId) [iv k'.mp, iv k'.bk, Value.slice ka k'.cl.length k'.cl.length, Value.bool k'.bt], row xb1 (29 : TypeId) [Value.string (St []), iv 0, iv 0, iv 0, iv 0, Value.bool false]]) (fun _ => by kernel_rfl) (@Go.Proofs.YthjhkondmobaeaaDoor.rams_o ) (by kernel_rfl) (by kernel_rfl) (by kernel_rfl) fun xx1 xh1 => ?_)
        try dsimp only at xh1
        obtain ⟨xh1_0, xh1_1⟩ := xh1
        refine Xg.acts (Xg.owes_rd 1 hR (by kernel_rfl) (Xg.owes_rd 1 hR (by kernel_rfl) (Xg.owes_cell 5 rfl (by kernel_rfl) (Xg.owes_cell 5 rfl (by kernel_rfl) Xg.owes_nil)))) ?_
        refine Xg.any_each [13] (by kernel_rfl) rfl ⟨?_, trivial⟩
        refine Xg.comes_act rfl (by kernel_rfl) (by kernel_rfl) (Xg.opx_rd 0 (.pointer (some (Addr.mk (Xg.blk xx1.fst) (offA xx1.fst + q9) none))) rfl (Xg.reads_own (E := ((3 : TypeId))) (sz := ((1 : Nat))) (n := ((6 : Nat))) (c := ((6 : Nat))) (a := xx1.fst) (vs := (List.map (Value.int IntKind.i64) xx1.snd))) (by kernel_rfl) (Xg.run_ix_rd (elem := 3) (kd := .i64) (e := ((↑q9 : Int))) 1 q9 (offA xx1.fst + q9) (by kernel_rfl) (by kernel_rfl) (by kernel_rfl) (by kernel_rfl) rfl (by omega) (by simp only [List.length_map]; omega) (by omega)) ?_)
        refine Xg.acts (Xg.owes_rd 1 hR (by kernel_rfl) (Xg.owes_rd 1 hR (by kernel_rfl) (Xg.owes_cell 5 rfl (by kernel_rfl) (Xg.owes_cell 5 rfl (by kernel_rfl) Xg.owes_nil)))) ?_
        refine Xg.any_each [14] (by kernel_rfl) rfl ⟨?_, trivial⟩
        refine Xg.comes_act rfl (by kernel_rfl) (by kernel_rfl) (Xg.opx_rd 0 (iv (xx1.snd.getD q9 (0 : Int))) rfl (Xg.reads_own (E := ((3 : TypeId))) (sz := ((1 : Nat))) (n := ((6 : Nat))) (c := ((6 : Nat))) (a := xx1.fst) (vs := (List.map (Value.int IntKind.i64) xx1.snd))) (by kernel_rfl) (Xg.run_load_rd (off0 := (offA xx1.fst + q9)) q9 (by kernel_rfl) (by omega) (Xg.get_ints (by omega)) (by kernel_rfl)) ?_)
        refine Xg.acts (Xg.owes_rd 1 hR (by kernel_rfl) (Xg.owes_rd 1 hR (by kernel_rfl) (Xg.owes_cell 5 rfl (by kernel_rfl) (Xg.owes_cell 5 rfl (by kernel_rfl) Xg.owes_nil)))) ?_
        refine Xg.any_pure ((Value.agg #[Value.string (St tt), iv (B.getD (327 : Nat) (0 : Int)), iv k'.mp, iv (IntKind.i64.wrap ((2 : Int) * (2 : Int) ^ min (B.getD (328 : Nat) (0 : Int)).toNat IntKind.i64.bits)), iv (xx1.snd.getD q9 (0 : Int)), Value.bool k'.bt])) 17 (by kernel_rfl) rfl (by kernel_rfl) (by kernel_rfl) (by kernel_rfl) (by kernel_rfl) rfl (fun _ => by kernel_rfl) ?_
        refine Xg.any_each [19] (by kernel_rfl) rfl ⟨?_, trivial⟩
        refine Xg.comes_act rfl (by kernel_rfl) (by kernel_rfl) (Xg.opx_storen 6 (off := 0) 2 [Value.string (St tt), iv (B.getD (327 : Nat) (0 : Int)), iv k'.mp, iv (IntKind.i64.wrap ((2 : Int) * (2 : Int) ^ min (B.getD (328 : Nat) (0 : Int)).toNat IntKind.i64.bits)), iv (xx1.snd.getD q9 (0 : Int)), Value.bool k'.bt] (by kernel_rfl) rfl (by kernel_rfl) (by kernel_rfl) rfl (by kernel_rfl) (Nat.le_of_ble_eq_true (by kernel_rfl)) ?_)
        refine Xg.acts (Xg.owes_skip (by kernel_rfl) (Xg.owes_skip (by kernel_rfl) (Xg.owes_skip (by kernel_rfl) (Xg.owes_skip (by kernel_rfl) Xg.owes_nil)))) ?_
        refine Xg.any_nil (by kernel_rfl) ?_
        refine Xg.at_seq ?_
        refine Xg.at_seq ?_
        refine Xg.at_region ?_
        refine Xg.ops_op (by kernel_rfl) (Xg.opx_pure ((pv rb 0)) rfl (fun _ => by kernel_rfl) ?_)
        refine Xg.ops_op (by kernel_rfl) (Xg.opx_load (b := rb) (off := ((0 : Nat))) 5 (iv k'.mp) rfl (by kernel_rfl) (by kernel_rfl) (by kernel_rfl) ?_)
        refine Xg.ops_op (by kernel_rfl) (Xg.opx_pure (.bool (decide ((k'.mp : Int) = ((2 : Int))))) rfl (fun _ => by kernel_rfl) ?_)
        refine Xg.ops_nil ?_
        refine Xg.at_true (t := decide ((k'.mp = (2 : Int)))) (by kernel_rfl) (decide_eq_true (by omega)) ?_
        refine Xg.at_region ?_
        refine Xg.ops_op (by kernel_rfl) (Xg.opx_pure ((pv xb2 4)) rfl (fun _ => by kernel_rfl) ?_)
        refine Xg.ops_op (by kernel_rfl) (Xg.opx_store1 (off := 4) 2 (iv 512) (by kernel_rfl) rfl (by kernel_rfl) (by kernel_rfl) (by kernel_rfl) (Nat.le_of_ble_eq_true (by kernel_rfl)) ?_)
        refine Xg.ops_nil ?_
        refine Xg.at_seq ?_
        refine Xg.at_region ?_
        refine Xg.ops_op (by kernel_rfl) (Xg.opx_loadn (off := 0) 6 2 [Value.string (St tt), iv (B.getD (327 : Nat) (0 : Int)), iv k'.mp, iv (IntKind.i64.wrap ((2 : Int) * (2 : Int) ^ min (B.getD (328 : Nat) (0 : Int)).toNat IntKind.i64.bits)), iv 512, Value.bool k'.bt] (by kernel_rfl) rfl (by kernel_rfl) rfl (Xg.cells_at (by kernel_rfl)) (by kernel_rfl) ?_)
        refine Xg.ops_op (by kernel_rfl) (Xg.opx_storen 6 (off := 0) 6 [Value.string (St tt), iv (B.getD (327 : Nat) (0 : Int)), iv k'.mp, iv (IntKind.i64.wrap ((2 : Int) * (2 : Int) ^ min (B.getD (328 : Nat) (0 : Int)).toNat IntKind.i64.bits)), iv 512, Value.bool k'.bt] (by kernel_rfl) rfl (by kernel_rfl) (by kernel_rfl) rfl (by kernel_rfl) (Nat.le_of_ble_eq_true (by kernel_rfl)) ?_)
        refine Xg.ops_op (by kernel_rfl) (Xg.opx_pure ((iv 0)) rfl (fun _ => by kernel_rfl) ?_)
        refine Xg.ops_nil ?_
        refine Xg.at_ret_feed (v := (Value.tuple #[Value.agg #[Value.string (St tt), iv (B.getD (327 : Nat) (0 : Int)), iv k'.mp, iv (IntKind.i64.wrap ((2 : Int) * (2 : Int) ^ min (B.getD (328 : Nat) (0 : Int)).toNat IntKind.i64.bits)), iv 512, Value.bool k'.bt], iv 0])) [(Addr.mk xb1 (0 : Nat) none), (Addr.mk xb1 (1 : Nat) none), (Addr.mk xb1 (2 : Nat) none), (Addr.mk xb1 (3 : Nat) none), (Addr.mk xb1 (4 : Nat) none), (Addr.mk xb1 (5 : Nat) none)] [Value.string (St tt), iv (B.getD (327 : Nat) (0 : Int)), iv k'.mp, iv (IntKind.i64.wrap ((2 : Int) * (2 : Int) ^ min (B.getD (328 : Nat) (0 : Int)).toNat IntKind.i64.bits)), iv 512, Value.bool k'.bt] [1] [A] Go.Proofs.Tryd.func9 (by kernel_rfl) (Xg.cells_cons (b := xb1) (off := 0) 6 rfl (by kernel_rfl) (Xg.cells_cons (b := xb1) (off := 1) 6 rfl (by kernel_rfl) (Xg.cells_cons (b := xb1) (off := 2) 6 rfl (by kernel_rfl) (Xg.cells_cons (b := xb1) (off := 3) 6 rfl (by kernel_rfl) (Xg.cells_cons (b := xb1) (off := 4) 6 rfl (by kernel_rfl) (Xg.cells_cons (b := xb1) (off := 5) 6 rfl (by kernel_rfl) Xg.cells_nil)))))) (by kernel_rfl) (by kernel_rfl) ?_
        rotate_left
        refine Xg.any_each [13, 18] (by kernel_rfl) rfl ⟨?_, ?_, trivial⟩
        refine Xg.comes_act rfl (by kernel_rfl) (by kernel_rfl) (Xg.opx_rd 0 (.pointer (some (Addr.mk (Xg.blk xx1.fst) (offA xx1.fst + q9) none))) rfl (Xg.reads_own (E := ((3 : TypeId))) (sz := ((1 : Nat))) (n := ((6 : Nat))) (c := ((6 : Nat))) (a := xx1.fst) (vs := (List.map (Value.int IntKind.i64) xx1.snd))) (by kernel_rfl) (Xg.run_ix_rd (elem := 3) (kd := .i64) (e := ((↑q9 : Int))) 1 q9 (offA xx1.fst + q9) (by kernel_rfl) (by kernel_rfl) (by kernel_rfl) (by kernel_rfl) rfl (by omega) (by simp only [List.length_map]; omega) (by omega)) ?_)
        refine Xg.acts (Xg.owes_rd 1 hR (by kernel_rfl) (Xg.owes_rd 1 hR (by kernel_rfl) (Xg.owes_cell 4 rfl (by kernel_rfl) (Xg.owes_cell 4 rfl (by kernel_rfl) Xg.owes_nil)))) ?_
        rotate_left
        refine Xg.comes_act rfl (by kernel_rfl) (by kernel_rfl) (Xg.opx_new 6 [Value.string (ByteArray.mk #[]), iv 0, iv 0, iv 0, iv 0, Value.bool false] (by kernel_rfl) (by kernel_rfl) fun xb2 => ?_)
        refine Xg.acts (Xg.owes_rd 2 hR (by kernel_rfl) (Xg.owes_rd 2 hR (by kernel_rfl) (Xg.owes_cell 5 rfl (by kernel_rfl) (Xg.owes_cell 5 rfl (by kernel_rfl) Xg.owes_nil)))) ?_
        rotate_left
        refine Xg.any_each [11] (by kernel_rfl) rfl ⟨?_, trivial⟩
        refine Xg.comes_act rfl (by kernel_rfl) (by kernel_rfl) (Xg.opx_callE' [] (fun xx1 => [ownS (3 : TypeId) (1 : Nat) (Value.slice xx1.fst (6 : Nat) (6 : Nat)) (6 : Nat) (List.map (Value.int IntKind.i64) xx1.snd), row xb2 (29 : Nat) [Value.string (ByteArray.mk #[]), iv 0, iv 0, iv 0, iv 0, Value.bool false], A, typS A2, mp mb IntKind.u8 (typL A2), row rb (48 : TypeId) [iv k'.mp, iv k'.bk, Value.slice ka k'.cl.length k'.cl.length, Value.bool k'.bt], row xb1 (29 : TypeId) [Value.string (St []), iv 0, iv 0, iv 0, iv 0, Value.bool false]]) (fun _ => by kernel_rfl) (@Go.Proofs.YthjhkondmobaeaaDoor.rams_o ) (by kernel_rfl) (by kernel_rfl) (by kernel_rfl) fun xx1 xh1 => ?_)
        try dsimp only at xh1
        obtain ⟨xh1_0, xh1_1⟩ := xh1
        refine Xg.acts (Xg.owes_rd 2 hR (by kernel_rfl) (Xg.owes_rd 2 hR (by kernel_rfl) (Xg.owes_cell 5 rfl (by kernel_rfl) (Xg.owes_cell 5 rfl (by kernel_rfl) Xg.owes_nil)))) ?_
        refine Xg.any_each [13] (by kernel_rfl) rfl ⟨?_, trivial⟩
        refine Xg.comes_act rfl (by kernel_rfl) (by kernel_rfl) (Xg.opx_rd 0 (.pointer (some (Addr.mk (Xg.blk xx1.fst) (offA xx1.fst + q9) none))) rfl (Xg.reads_own (E := ((3 : TypeId))) (sz := ((1 : Nat))) (n := ((6 : Nat))) (c := ((6 : Nat))) (a := xx1.fst) (vs := (List.map (Value.int IntKind.i64) xx1.snd))) (by kernel_rfl) (Xg.run_ix_rd (elem := 3) (kd := .i64) (e := ((↑q9 : Int))) 1 q9 (offA xx1.fst + q9) (by kernel_rfl) (by kernel_rfl) (by kernel_rfl) (by kernel_rfl) rfl (by omega) (by simp only [List.length_map]; omega) (by omega)) ?_)
        refine Xg.acts (Xg.owes_rd 2 hR (by kernel_rfl) (Xg.owes_rd 2 hR (by kernel_rfl) (Xg.owes_cell 5 rfl (by kernel_rfl) (Xg.owes_cell 5 rfl (by kernel_rfl) Xg.owes_nil)))) ?_
        refine Xg.any_each [14] (by kernel_rfl) rfl ⟨?_, trivial⟩
        refine Xg.comes_act rfl (by kernel_rfl) (by kernel_rfl) (Xg.opx_rd 0 (iv (xx1.snd.getD q9 (0 : Int))) rfl (Xg.reads_own (E := ((3 : TypeId))) (sz := ((1 : Nat))) (n := ((6 : Nat))) (c := ((6 : Nat))) (a := xx1.fst) (vs := (List.map (Value.int IntKind.i64) xx1.snd))) (by kernel_rfl) (Xg.run_load_rd (off0 := (offA xx1.fst + q9)) q9 (by kernel_rfl) (by omega) (Xg.get_ints (by omega)) (by kernel_rfl)) ?_)
        refine Xg.acts (Xg.owes_rd 2 hR (by kernel_rfl) (Xg.owes_rd 2 hR (by kernel_rfl) (Xg.owes_cell 5 rfl (by kernel_rfl) (Xg.owes_cell 5 rfl (by kernel_rfl) Xg.owes_nil)))) ?_
        refine Xg.any_pure ((Value.agg #[Value.string (St tt), iv (B.getD (327 : Nat) (0 : Int)), iv k'.mp, iv (IntKind.i64.wrap ((2 : Int) * (2 : Int) ^ min (B.getD (328 : Nat) (0 : Int)).toNat IntKind.i64.bits)), iv (xx1.snd.getD q9 (0 : Int)), Value.bool k'.bt])) 17 (by kernel_rfl) rfl (by kernel_rfl) (by kernel_rfl) (by kernel_rfl) (by kernel_rfl) rfl (fun _ => by kernel_rfl) ?_
        refine Xg.any_each [19] (by kernel_rfl) rfl ⟨?_, trivial⟩
        refine Xg.comes_act rfl (by kernel_rfl) (by kernel_rfl) (Xg.opx_storen 6 (off := 0) 1 [Value.string (St tt), iv (B.getD (327 : Nat) (0 : Int)), iv k'.mp, iv (IntKind.i64.wrap ((2 : Int) * (2 : Int) ^ min (B.getD (328 : Nat) (0 : Int)).toNat IntKind.i64.bits)), iv (xx1.snd.getD q9 (0 : Int)), Value.bool k'.bt] (by kernel_rfl) rfl (by kernel_rfl) (by kernel_rfl) rfl (by kernel_rfl) (Nat.le_of_ble_eq_true (by kernel_rfl)) ?_)
        refine Xg.acts (Xg.owes_skip (by kernel_rfl) (Xg.owes_skip (by kernel_rfl) (Xg.owes_skip (by kernel_rfl) (Xg.owes_skip (by kernel_rfl) Xg.owes_nil)))) ?_
        refine Xg.any_nil (by kernel_rfl) ?_
        refine Xg.at_seq ?_
        refine Xg.at_seq ?_
        refine Xg.at_region ?_
        refine Xg.ops_op (by kernel_rfl) (Xg.opx_pure ((pv rb 0)) rfl (fun _ => by kernel_rfl) ?_)
        refine Xg.ops_op (by kernel_rfl) (Xg.opx_load (b := rb) (off := ((0 : Nat))) 5 (iv k'.mp) rfl (by kernel_rfl) (by kernel_rfl) (by kernel_rfl) ?_)
        refine Xg.ops_op (by kernel_rfl) (Xg.opx_pure (.bool (decide ((k'.mp : Int) = ((2 : Int))))) rfl (fun _ => by kernel_rfl) ?_)
        refine Xg.ops_nil ?_
        refine Xg.at_true (t := decide ((k'.mp = (2 : Int)))) (by kernel_rfl) (decide_eq_true (by omega)) ?_
        refine Xg.at_region ?_
        refine Xg.ops_op (by kernel_rfl) (Xg.opx_pure ((pv xb2 4)) rfl (fun _ => by kernel_rfl) ?_)
        refine Xg.ops_op (by kernel_rfl) (Xg.opx_store1 (off := 4) 1 (iv 512) (by kernel_rfl) rfl (by kernel_rfl) (by kernel_rfl) (by kernel_rfl) (Nat.le_of_ble_eq_true (by kernel_rfl)) ?_)
        refine Xg.ops_nil ?_
        refine Xg.at_seq ?_
        refine Xg.at_region ?_
        refine Xg.ops_op (by kernel_rfl) (Xg.opx_loadn (off := 0) 6 1 [Value.string (St tt), iv (B.getD (327 : Nat) (0 : Int)), iv k'.mp, iv (IntKind.i64.wrap ((2 : Int) * (2 : Int) ^ min (B.getD (328 : Nat) (0 : Int)).toNat IntKind.i64.bits)), iv 512, Value.bool k'.bt] (by kernel_rfl) rfl (by kernel_rfl) rfl (Xg.cells_at (by kernel_rfl)) (by kernel_rfl) ?_)
        refine Xg.ops_op (by kernel_rfl) (Xg.opx_storen 6 (off := 0) 6 [Value.string (St tt), iv (B.getD (327 : Nat) (0 : Int)), iv k'.mp, iv (IntKind.i64.wrap ((2 : Int) * (2 : Int) ^ min (B.getD (328 : Nat) (0 : Int)).toNat IntKind.i64.bits)), iv 512, Value.bool k'.bt] (by kernel_rfl) rfl (by kernel_rfl) (by kernel_rfl) rfl (by kernel_rfl) (Nat.le_of_ble_eq_true (by kernel_rfl)) ?_)
        refine Xg.ops_op (by kernel_rfl) (Xg.opx_pure ((iv 0)) rfl (fun _ => by kernel_rfl) ?_)
        refine Xg.ops_nil ?_
        refine Xg.at_ret_feed (v := (Value.tuple #[Value.agg #[Value.string (St tt), iv (B.getD (327 : Nat) (0 : Int)), iv k'.mp, iv (IntKind.i64.wrap ((2 : Int) * (2 : Int) ^ min (B.getD (328 : Nat) (0 : Int)).toNat IntKind.i64.bits)), iv 512, Value.bool k'.bt], iv 0])) [(Addr.mk xb1 (0 : Nat) none), (Addr.mk xb1 (1 : Nat) none), (Addr.mk xb1 (2 : Nat) none), (Addr.mk xb1 (3 : Nat) none), (Addr.mk xb1 (4 : Nat) none), (Addr.mk xb1 (5 : Nat) none)] [Value.string (St tt), iv (B.getD (327 : Nat) (0 : Int)), iv k'.mp, iv (IntKind.i64.wrap ((2 : Int) * (2 : Int) ^ min (B.getD (328 : Nat) (0 : Int)).toNat IntKind.i64.bits)), iv 512, Value.bool k'.bt] [2] [A] Go.Proofs.Tryd.func9 (by kernel_rfl) (Xg.cells_cons (b := xb1) (off := 0) 6 rfl (by kernel_rfl) (Xg.cells_cons (b := xb1) (off := 1) 6 rfl (by kernel_rfl) (Xg.cells_cons (b := xb1) (off := 2) 6 rfl (by kernel_rfl) (Xg.cells_cons (b := xb1) (off := 3) 6 rfl (by kernel_rfl) (Xg.cells_cons (b := xb1) (off := 4) 6 rfl (by kernel_rfl) (Xg.cells_cons (b := xb1) (off := 5) 6 rfl (by kernel_rfl) Xg.cells_nil)))))) (by kernel_rfl) (by kernel_rfl) ?_
        rotate_left
        rotate_left
        refine Xg.any_each [14, 18] (by kernel_rfl) rfl ⟨?_, ?_, trivial⟩
        refine Xg.comes_act rfl (by kernel_rfl) (by kernel_rfl) (Xg.opx_rd 0 (iv (xx1.snd.getD q9 (0 : Int))) rfl (Xg.reads_own (E := ((3 : TypeId))) (sz := ((1 : Nat))) (n := ((6 : Nat))) (c := ((6 : Nat))) (a := xx1.fst) (vs := (List.map (Value.int IntKind.i64) xx1.snd))) (by kernel_rfl) (Xg.run_load_rd (off0 := (offA xx1.fst + q9)) q9 (by kernel_rfl) (by omega) (Xg.get_ints (by omega)) (by kernel_rfl)) ?_)
        refine Xg.acts (Xg.owes_rd 1 hR (by kernel_rfl) (Xg.owes_rd 1 hR (by kernel_rfl) (Xg.owes_cell 4 rfl (by kernel_rfl) (Xg.owes_cell 4 rfl (by kernel_rfl) Xg.owes_nil)))) ?_
        rotate_left
        refine Xg.comes_act rfl (by kernel_rfl) (by kernel_rfl) (Xg.opx_new 6 [Value.string (ByteArray.mk #[]), iv 0, iv 0, iv 0, iv 0, Value.bool false] (by kernel_rfl) (by kernel_rfl) fun xb2 => ?_)
        refine Xg.acts (Xg.owes_rd 2 hR (by kernel_rfl) (Xg.owes_rd 2 hR (by kernel_rfl) (Xg.owes_cell 5 rfl (by kernel_rfl) (Xg.owes_cell 5 rfl (by kernel_rfl) Xg.owes_nil)))) ?_
        rotate_left
        refine Xg.any_each [13] (by kernel_rfl) rfl ⟨?_, trivial⟩
        refine Xg.comes_act rfl (by kernel_rfl) (by kernel_rfl) (Xg.opx_rd 1 (.pointer (some (Addr.mk (Xg.blk xx1.fst) (offA xx1.fst + q9) none))) rfl (Xg.reads_own (E := ((3 : TypeId))) (sz := ((1 : Nat))) (n := ((6 : Nat))) (c := ((6 : Nat))) (a := xx1.fst) (vs := (List.map (Value.int IntKind.i64) xx1.snd))) (by kernel_rfl) (Xg.run_ix_rd (elem := 3) (kd := .i64) (e := ((↑q9 : Int))) 1 q9 (offA xx1.fst + q9) (by kernel_rfl) (by kernel_rfl) (by kernel_rfl) (by kernel_rfl) rfl (by omega) (by simp only [List.length_map]; omega) (by omega)) ?_)
        refine Xg.acts (Xg.owes_rd 2 hR (by kernel_rfl) (Xg.owes_rd 2 hR (by kernel_rfl) (Xg.owes_cell 5 rfl (by kernel_rfl) (Xg.owes_cell 5 rfl (by kernel_rfl) Xg.owes_nil)))) ?_
        refine Xg.any_each [14] (by kernel_rfl) rfl ⟨?_, trivial⟩
        refine Xg.comes_act rfl (by kernel_rfl) (by kernel_rfl) (Xg.opx_rd 1 (iv (xx1.snd.getD q9 (0 : Int))) rfl (Xg.reads_own (E := ((3 : TypeId))) (sz := ((1 : Nat))) (n := ((6 : Nat))) (c := ((6 : Nat))) (a := xx1.fst) (vs := (List.map (Value.int IntKind.i64) xx1.snd))) (by kernel_rfl) (Xg.run_load_rd (off0 := (offA xx1.fst + q9)) q9 (by kernel_rfl) (by omega) (Xg.get_ints (by omega)) (by kernel_rfl)) ?_)
        refine Xg.acts (Xg.owes_rd 2 hR (by kernel_rfl) (Xg.owes_rd 2 hR (by kernel_rfl) (Xg.owes_cell 5 rfl (by kernel_rfl) (Xg.owes_cell 5 rfl (by kernel_rfl) Xg.owes_nil)))) ?_
        refine Xg.any_pure ((Value.agg #[Value.string (St tt), iv (B.getD (327 : Nat) (0 : Int)), iv k'.mp, iv (IntKind.i64.wrap ((2 : Int) * (2 : Int) ^ min (B.getD (328 : Nat) (0 : Int)).toNat IntKind.i64.bits)), iv (xx1.snd.getD q9 (0 : Int)), Value.bool k'.bt])) 17 (by kernel_rfl) rfl (by kernel_rfl) (by kernel_rfl) (by kernel_rfl) (by kernel_rfl) rfl (fun _ => by kernel_rfl) ?_
        refine Xg.any_each [19] (by kernel_rfl) rfl ⟨?_, trivial⟩
        refine Xg.comes_act rfl (by kernel_rfl) (by kernel_rfl) (Xg.opx_storen 6 (off := 0) 0 [Value.string (St tt), iv (B.getD (327 : Nat) (0 : Int)), iv k'.mp, iv (IntKind.i64.wrap ((2 : Int) * (2 : Int) ^ min (B.getD (328 : Nat) (0 : Int)).toNat IntKind.i64.bits)), iv (xx1.snd.getD q9 (0 : Int)), Value.bool k'.bt] (by kernel_rfl) rfl (by kernel_rfl) (by kernel_rfl) rfl (by kernel_rfl) (Nat.le_of_ble_eq_true (by kernel_rfl)) ?_)
        refine Xg.acts (Xg.owes_skip (by kernel_rfl) (Xg.owes_skip (by kernel_rfl) (Xg.owes_skip (by kernel_rfl) (Xg.owes_skip (by kernel_rfl) Xg.owes_nil)))) ?_
        refine Xg.any_nil (by kernel_rfl) ?_
        refine Xg.at_seq ?_
        refine Xg.at_seq ?_
        refine Xg.at_region ?_
        refine Xg.ops_op (by kernel_rfl) (Xg.opx_pure ((pv rb 0)) rfl (fun _ => by kernel_rfl) ?_)
        refine Xg.ops_op (by kernel_rfl) (Xg.opx_load (b := rb) (off := ((0 : Nat))) 5 (iv k'.mp) rfl (by kernel_rfl) (by kernel_rfl) (by kernel_rfl) ?_)
        refine Xg.ops_op (by kernel_rfl) (Xg.opx_pure (.bool (decide ((k'.mp : Int) = ((2 : Int))))) rfl (fun _ => by kernel_rfl) ?_)
        refine Xg.ops_nil ?_
        refine Xg.at_true (t := decide ((k'.mp = (2 : Int)))) (by kernel_rfl) (decide_eq_true (by omega)) ?_
        refine Xg.at_region ?_
        refine Xg.ops_op (by kernel_rfl) (Xg.opx_pure ((pv xb2 4)) rfl (fun _ => by kernel_rfl) ?_)
        refine Xg.ops_op (by kernel_rfl) (Xg.opx_store1 (off := 4) 0 (iv 512) (by kernel_rfl) rfl (by kernel_rfl) (by kernel_rfl) (by kernel_rfl) (Nat.le_of_ble_eq_true (by kernel_rfl)) ?_)
        refine Xg.ops_nil ?_
        refine Xg.at_seq ?_
        refine Xg.at_region ?_
        refine Xg.ops_op (by kernel_rfl) (Xg.opx_loadn (off := 0) 6 0 [Value.string (St tt), iv (B.getD (327 : Nat) (0 : Int)), iv k'.mp, iv (IntKind.i64.wrap ((2 : Int) * (2 : Int) ^ min (B.getD (328 : Nat) (0 : Int)).toNat IntKind.i64.bits)), iv 512, Value.bool k'.bt] (by kernel_rfl) rfl (by kernel_rfl) rfl (Xg.cells_at (by kernel_rfl)) (by kernel_rfl) ?_)
        refine Xg.ops_op (by kernel_rfl) (Xg.opx_storen 6 (off := 0) 6 [Value.string (St tt), iv (B.getD (327 : Nat) (0 : Int)), iv k'.mp, iv (IntKind.i64.wrap ((2 : Int) * (2 : Int) ^ min (B.getD (328 : Nat) (0 : Int)).toNat IntKind.i64.bits)), iv 512, Value.bool k'.bt] (by kernel_rfl) rfl (by kernel_rfl) (by kernel_rfl) rfl (by kernel_rfl) (Nat.le_of_ble_eq_true (by kernel_rfl)) ?_)
        refine Xg.ops_op (by kernel_rfl) (Xg.opx_pure ((iv 0)) rfl (fun _ => by kernel_rfl) ?_)
        refine Xg.ops_nil ?_
        refine Xg.at_ret_feed (v := (Value.tuple #[Value.agg #[Value.string (St tt), iv (B.getD (327 : Nat) (0 : Int)), iv k'.mp, iv (IntKind.i64.wrap ((2 : Int) * (2 : Int) ^ min (B.getD (328 : Nat) (0 : Int)).toNat IntKind.i64.bits)), iv 512, Value.bool k'.bt], iv 0])) [(Addr.mk xb1 (0 : Nat) none), (Addr.mk xb1 (1 : Nat) none), (Addr.mk xb1 (2 : Nat) none), (Addr.mk xb1 (3 : Nat) none), (Addr.mk xb1 (4 : Nat) none), (Addr.mk xb1 (5 : Nat) none)] [Value.string (St tt), iv (B.getD (327 : Nat) (0 : Int)), iv k'.mp, iv (IntKind.i64.wrap ((2 : Int) * (2 : Int) ^ min (B.getD (328 : Nat) (0 : Int)).toNat IntKind.i64.bits)), iv 512, Value.bool k'.bt] [2] [A] Go.Proofs.Tryd.func9 (by kernel_rfl) (Xg.cells_cons (b := xb1) (off := 0) 6 rfl (by kernel_rfl) (Xg.cells_cons (b := xb1) (off := 1) 6 rfl (by kernel_rfl) (Xg.cells_cons (b := xb1) (off := 2) 6 rfl (by kernel_rfl) (Xg.cells_cons (b := xb1) (off := 3) 6 rfl (by kernel_rfl) (Xg.cells_cons (b := xb1) (off := 4) 6 rfl (by kernel_rfl) (Xg.cells_cons (b := xb1) (off := 5) 6 rfl (by kernel_rfl) Xg.cells_nil)))))) (by kernel_rfl) (by kernel_rfl) ?_
        rotate_left
        rotate_left
        rotate_left
        refine Xg.any_pure ((Value.agg #[Value.string (St tt), iv (B.getD (327 : Nat) (0 : Int)), iv k'.mp, iv (IntKind.i64.wrap ((2 : Int) * (2 : Int) ^ min (B.getD (328 : Nat) (0 : Int)).toNat IntKind.i64.bits)), iv (xx1.snd.getD q9 (0 : Int)), Value.bool k'.bt])) 17 (by kernel_rfl) rfl (by kernel_rfl) (by kernel_rfl) (by kernel_rfl) (by kernel_rfl) rfl (fun _ => by kernel_rfl) ?_
        refine Xg.any_each [18] (by kernel_rfl) rfl ⟨?_, trivial⟩
        refine Xg.comes_act rfl (by kernel_rfl) (by kernel_rfl) (Xg.opx_new 6 [Value.string (ByteArray.mk #[]), iv 0, iv 0, iv 0, iv 0, Value.bool false] (by kernel_rfl) (by kernel_rfl) fun xb2 => ?_)
        refine Xg.acts (Xg.owes_rd 2 hR (by kernel_rfl) (Xg.owes_rd 2 hR (by kernel_rfl) (Xg.owes_cell 5 rfl (by kernel_rfl) (Xg.owes_cell 5 rfl (by kernel_rfl) Xg.owes_nil)))) ?_
        refine Xg.any_each [19] (by kernel_rfl) rfl ⟨?_, trivial⟩
        refine Xg.comes_act rfl (by kernel_rfl) (by kernel_rfl) (Xg.opx_storen 6 (off := 0) 0 [Value.string (St tt), iv (B.getD (327 : Nat) (0 : Int)), iv k'.mp, iv (IntKind.i64.wrap ((2 : Int) * (2 : Int) ^ min (B.getD (328 : Nat) (0 : Int)).toNat IntKind.i64.bits)), iv (xx1.snd.getD q9 (0 : Int)), Value.bool k'.bt] (by kernel_rfl) rfl (by kernel_rfl) (by kernel_rfl) rfl (by kernel_rfl) (Nat.le_of_ble_eq_true (by kernel_rfl)) ?_)
        refine Xg.acts (Xg.owes_skip (by kernel_rfl) (Xg.owes_skip (by kernel_rfl) (Xg.owes_skip (by kernel_rfl) (Xg.owes_skip (by kernel_rfl) Xg.owes_nil)))) ?_
        refine Xg.any_nil (by kernel_rfl) ?_
        refine Xg.at_seq ?_
        refine Xg.at_seq ?_
        refine Xg.at_region ?_
        refine Xg.ops_op (by kernel_rfl) (Xg.opx_pure ((pv rb 0)) rfl (fun _ => by kernel_rfl) ?_)
        refine Xg.ops_op (by kernel_rfl) (Xg.opx_load (b := rb) (off := ((0 : Nat))) 5 (iv k'.mp) rfl (by kernel_rfl) (by kernel_rfl) (by kernel_rfl) ?_)
        refine Xg.ops_op (by kernel_rfl) (Xg.opx_pure (.bool (decide ((k'.mp : Int) = ((2 : Int))))) rfl (fun _ => by kernel_rfl) ?_)
        refine Xg.ops_nil ?_
        refine Xg.at_true (t := decide ((k'.mp = (2 : Int)))) (by kernel_rfl) (decide_eq_true (by omega)) ?_
        refine Xg.at_region ?_
        refine Xg.ops_op (by kernel_rfl) (Xg.opx_pure ((pv xb2 4)) rfl (fun _ => by kernel_rfl) ?_)
        refine Xg.ops_op (by kernel_rfl) (Xg.opx_store1 (off := 4) 0 (iv 512) (by kernel_rfl) rfl (by kernel_rfl) (by kernel_rfl) (by kernel_rfl) (Nat.le_of_ble_eq_true (by kernel_rfl)) ?_)
        refine Xg.ops_nil ?_
        refine Xg.at_seq ?_
        refine Xg.at_region ?_
        refine Xg.ops_op (by kernel_rfl) (Xg.opx_loadn (off := 0) 6 0 [Value.string (St tt), iv (B.getD (327 : Nat) (0 : Int)), iv k'.mp, iv (IntKind.i64.wrap ((2 : Int) * (2 : Int) ^ min (B.getD (328 : Nat) (0 : Int)).toNat IntKind.i64.bits)), iv 512, Value.bool k'.bt] (by kernel_rfl) rfl (by kernel_rfl) rfl (Xg.cells_at (by kernel_rfl)) (by kernel_rfl) ?_)
        refine Xg.ops_op (by kernel_rfl) (Xg.opx_storen 6 (off := 0) 6 [Value.string (St tt), iv (B.getD (327 : Nat) (0 : Int)), iv k'.mp, iv (IntKind.i64.wrap ((2 : Int) * (2 : Int) ^ min (B.getD (328 : Nat) (0 : Int)).toNat IntKind.i64.bits)), iv 512, Value.bool k'.bt] (by kernel_rfl) rfl (by kernel_rfl) (by kernel_rfl) rfl (by kernel_rfl) (Nat.le_of_ble_eq_true (by kernel_rfl)) ?_)
        refine Xg.ops_op (by kernel_rfl) (Xg.opx_pure ((iv 0)) rfl (fun _ => by kernel_rfl) ?_)
        refine Xg.ops_nil ?_
        refine Xg.at_ret_feed (v := (Value.tuple #[Value.agg #[Value.string (St tt), iv (B.getD (327 : Nat) (0 : Int)), iv k'.mp, iv (IntKind.i64.wrap ((2 : Int) * (2 : Int) ^ min (B.getD (328 : Nat) (0 : Int)).toNat IntKind.i64.bits)), iv 512, Value.bool k'.bt], iv 0])) [(Addr.mk xb1 (0 : Nat) none), (Addr.mk xb1 (1 : Nat) none), (Addr.mk xb1 (2 : Nat) none), (Addr.mk xb1 (3 : Nat) none), (Addr.mk xb1 (4 : Nat) none), (Addr.mk xb1 (5 : Nat) none)] [Value.string (St tt), iv (B.getD (327 : Nat) (0 : Int)), iv k'.mp, iv (IntKind.i64.wrap ((2 : Int) * (2 : Int) ^ min (B.getD (328 : Nat) (0 : Int)).toNat IntKind.i64.bits)), iv 512, Value.bool k'.bt] [2] [A] Go.Proofs.Tryd.func9 (by kernel_rfl) (Xg.cells_cons (b := xb1) (off := 0) 6 rfl (by kernel_rfl) (Xg.cells_cons (b := xb1) (off := 1) 6 rfl (by kernel_rfl) (Xg.cells_cons (b := xb1) (off := 2) 6 rfl (by kernel_rfl) (Xg.cells_cons (b := xb1) (off := 3) 6 rfl (by kernel_rfl) (Xg.cells_cons (b := xb1) (off := 4) 6 rfl (by kernel_rfl) (Xg.cells_cons (b := xb1) (off := 5) 6 rfl (by kernel_rfl) Xg.cells_nil)))))) (by kernel_rfl) (by kernel_rfl) ?_
        rotate_left
        refine Xg.any_each [14] (by kernel_rfl) rfl ⟨?_, trivial⟩
        refine Xg.comes_act rfl (by kernel_rfl) (by kernel_rfl) (Xg.opx_rd 1 (iv (xx1.snd.getD q9 (0 : Int))) rfl (Xg.reads_own (E := ((3 : TypeId))) (sz := ((1 : Nat))) (n := ((6 : Nat))) (c := ((6 : Nat))) (a := xx1.fst) (vs := (List.map (Value.int IntKind.i64) xx1.snd))) (by kernel_rfl) (Xg.run_load_rd (off0 := (offA xx1.fst + q9)) q9 (by kernel_rfl) (by omega) (Xg.get_ints (by omega)) (by kernel_rfl)) ?_)
        refine Xg.acts (Xg.owes_rd 2 hR (by kernel_rfl) (Xg.owes_rd 2 hR (by kernel_rfl) (Xg.owes_cell 5 rfl (by kernel_rfl) (Xg.owes_cell 5 rfl (by kernel_rfl) Xg.owes_nil)))) ?_
        refine Xg.any_pure ((Value.agg #[Value.string (St tt), iv (B.getD (327 : Nat) (0 : Int)), iv k'.mp, iv (IntKind.i64.wrap ((2 : Int) * (2 : Int) ^ min (B.getD (328 : Nat) (0 : Int)).toNat IntKind.i64.bits)), iv (xx1.snd.getD q9 (0 : Int)), Value.bool k'.bt])) 17 (by kernel_rfl) rfl (by kernel_rfl) (by kernel_rfl) (by kernel_rfl) (by kernel_rfl) rfl (fun _ => by kernel_rfl) ?_
        refine Xg.any_each [19] (by kernel_rfl) rfl ⟨?_, trivial⟩
        refine Xg.comes_act rfl (by kernel_rfl) (by kernel_rfl) (Xg.opx_storen 6 (off := 0) 0 [Value.string (St tt), iv (B.getD (327 : Nat) (0 : Int)), iv k'.mp, iv (IntKind.i64.wrap ((2 : Int) * (2 : Int) ^ min (B.getD (328 : Nat) (0 : Int)).toNat IntKind.i64.bits)), iv (xx1.snd.getD q9 (0 : Int)), Value.bool k'.bt] (by kernel_rfl) rfl (by kernel_rfl) (by kernel_rfl) rfl (by kernel_rfl) (Nat.le_of_ble_eq_true (by kernel_rfl)) ?_)
        refine Xg.acts (Xg.owes_skip (by kernel_rfl) (Xg.owes_skip (by kernel_rfl) (Xg.owes_skip (by kernel_rfl) (Xg.owes_skip (by kernel_rfl) Xg.owes_nil)))) ?_
        refine Xg.any_nil (by kernel_rfl) ?_
        refine Xg.at_seq ?_
        refine Xg.at_seq ?_
        refine Xg.at_region ?_
        refine Xg.ops_op (by kernel_rfl) (Xg.opx_pure ((pv rb 0)) rfl (fun _ => by kernel_rfl) ?_)
        refine Xg.ops_op (by kernel_rfl) (Xg.opx_load (b := rb) (off := ((0 : Nat))) 5 (iv k'.mp) rfl (by kernel_rfl) (by kernel_rfl) (by kernel_rfl) ?_)
        refine Xg.ops_op (by kernel_rfl) (Xg.opx_pure (.bool (decide ((k'.mp : Int) = ((2 : Int))))) rfl (fun _ => by kernel_rfl) ?_)
        refine Xg.ops_nil ?_
        refine Xg.at_true (t := decide ((k'.mp = (2 : Int)))) (by kernel_rfl) (decide_eq_true (by omega)) ?_
        refine Xg.at_region ?_
        refine Xg.ops_op (by kernel_rfl) (Xg.opx_pure ((pv xb2 4)) rfl (fun _ => by kernel_rfl) ?_)
        refine Xg.ops_op (by kernel_rfl) (Xg.opx_store1 (off := 4) 0 (iv 512) (by kernel_rfl) rfl (by kernel_rfl) (by kernel_rfl) (by kernel_rfl) (Nat.le_of_ble_eq_true (by kernel_rfl)) ?_)
        refine Xg.ops_nil ?_
        refine Xg.at_seq ?_
        refine Xg.at_region ?_
        refine Xg.ops_op (by kernel_rfl) (Xg.opx_loadn (off := 0) 6 0 [Value.string (St tt), iv (B.getD (327 : Nat) (0 : Int)), iv k'.mp, iv (IntKind.i64.wrap ((2 : Int) * (2 : Int) ^ min (B.getD (328 : Nat) (0 : Int)).toNat IntKind.i64.bits)), iv 512, Value.bool k'.bt] (by kernel_rfl) rfl (by kernel_rfl) rfl (Xg.cells_at (by kernel_rfl)) (by kernel_rfl) ?_)
        refine Xg.ops_op (by kernel_rfl) (Xg.opx_storen 6 (off := 0) 6 [Value.string (St tt), iv (B.getD (327 : Nat) (0 : Int)), iv k'.mp, iv (IntKind.i64.wrap ((2 : Int) * (2 : Int) ^ min (B.getD (328 : Nat) (0 : Int)).toNat IntKind.i64.bits)), iv 512, Value.bool k'.bt] (by kernel_rfl) rfl (by kernel_rfl) (by kernel_rfl) rfl (by kernel_rfl) (Nat.le_of_ble_eq_true (by kernel_rfl)) ?_)
        refine Xg.ops_op (by kernel_rfl) (Xg.opx_pure ((iv 0)) rfl (fun _ => by kernel_rfl) ?_)
        refine Xg.ops_nil ?_
        refine Xg.at_ret_feed (v := (Value.tuple #[Value.agg #[Value.string (St tt), iv (B.getD (327 : Nat) (0 : Int)), iv k'.mp, iv (IntKind.i64.wrap ((2 : Int) * (2 : Int) ^ min (B.getD (328 : Nat) (0 : Int)).toNat IntKind.i64.bits)), iv 512, Value.bool k'.bt], iv 0])) [(Addr.mk xb1 (0 : Nat) none), (Addr.mk xb1 (1 : Nat) none), (Addr.mk xb1 (2 : Nat) none), (Addr.mk xb1 (3 : Nat) none), (Addr.mk xb1 (4 : Nat) none), (Addr.mk xb1 (5 : Nat) none)] [Value.string (St tt), iv (B.getD (327 : Nat) (0 : Int)), iv k'.mp, iv (IntKind.i64.wrap ((2 : Int) * (2 : Int) ^ min (B.getD (328 : Nat) (0 : Int)).toNat IntKind.i64.bits)), iv 512, Value.bool k'.bt] [2] [A] Go.Proofs.Tryd.func9 (by kernel_rfl) (Xg.cells_cons (b := xb1) (off := 0) 6 rfl (by kernel_rfl) (Xg.cells_cons (b := xb1) (off := 1) 6 rfl (by kernel_rfl) (Xg.cells_cons (b := xb1) (off := 2) 6 rfl (by kernel_rfl) (Xg.cells_cons (b := xb1) (off := 3) 6 rfl (by kernel_rfl) (Xg.cells_cons (b := xb1) (off := 4) 6 rfl (by kernel_rfl) (Xg.cells_cons (b := xb1) (off := 5) 6 rfl (by kernel_rfl) Xg.cells_nil)))))) (by kernel_rfl) (by kernel_rfl) ?_)
      all_goals (refine ⟨?_, rfl⟩; rw [hs1]; rfl)
    · rw [if_neg hm2]
      (focus
        refine Xg.at_region ?_
        refine Xg.ops_op (by kernel_rfl) (Xg.opx_pure ((iv 0)) rfl (fun _ => by kernel_rfl) ?_)
        refine Xg.ops_nil ?_
        refine Xg.at_seq ?_
        refine Xg.at_block ?_
        refine Xg.at_seq ?_
        refine Xg.at_region ?_
        refine Xg.ops_op (by kernel_rfl) (Xg.opx_pure ((Value.slice a n c)) rfl (fun _ => by kernel_rfl) ?_)
        refine Xg.ops_op (by kernel_rfl) (Xg.opx_call1' [4] [A, mp mb IntKind.u8 (typL A2), typS A2, row rb (48 : TypeId) [iv k'.mp, iv k'.bk, Value.slice ka k'.cl.length k'.cl.length, Value.bool k'.bt], row xb1 (29 : TypeId) [Value.string (St []), iv 0, iv 0, iv 0, iv 0, Value.bool false]] (fun _ => by kernel_rfl) (@hmk ) (by kernel_rfl) (by kernel_rfl) (by kernel_rfl) ?_)
        refine Xg.ops_op (by kernel_rfl) (Xg.opx_pure (.bool false) rfl (fun _ => by kernel_rfl) ?_)
        refine Xg.ops_op (by kernel_rfl) (Xg.opx_pure ((Value.bool false)) rfl (fun _ => by kernel_rfl) ?_)
        refine Xg.ops_nil ?_
        refine Xg.at_false (t := false) (by kernel_rfl) rfl ?_
        refine Xg.at_seq ?_
        refine Xg.at_draw [1] [(3, [0, 1, 2, 3], (RdIs (1 : Nat) (Value.slice a n c) n (List.map (Value.int IntKind.u8) B))), (4, [0, 1, 2, 3, 4], (RdIs (1 : Nat) (Value.slice a n c) n (List.map (Value.int IntKind.u8) B)))] (by kernel_rfl) ?_
        refine Xg.any_pure ((Value.slice a n c)) 0 (by kernel_rfl) rfl (by kernel_rfl) (by kernel_rfl) (by kernel_rfl) (by kernel_rfl) rfl (fun _ => by kernel_rfl) ?_
        refine Xg.any_pure ((Value.slice a n c)) 2 (by kernel_rfl) rfl (by kernel_rfl) (by kernel_rfl) (by kernel_rfl) (by kernel_rfl) rfl (fun _ => by kernel_rfl) ?_
        refine Xg.any_reads (.pointer (some (Addr.mk (Xg.blk a) (offA a + (333 : Nat)) none))) 3 0 (by kernel_rfl) rfl (by kernel_rfl) (by kernel_rfl) (by kernel_rfl) (by kernel_rfl) rfl rfl (by kernel_rfl) (Xg.rd_now 0 hR (by kernel_rfl)) (Xg.run_ix_rd (elem := 5) (kd := .i64) (e := ((333 : Int))) 1 ((333 : Nat)) (offA a + (333 : Nat)) (by kernel_rfl) (by kernel_rfl) (by kernel_rfl) (by kernel_rfl) rfl (by omega) (by simp only [List.length_map]; omega) (by omega)) ?_
        refine Xg.any_reads (uv (B.getD (333 : Nat) (0 : Int))) 4 1 (by kernel_rfl) rfl (by kernel_rfl) (by kernel_rfl) (by kernel_rfl) (by kernel_rfl) rfl rfl (by kernel_rfl) (Xg.rd_now 0 hR (by kernel_rfl)) (Xg.run_load_rd (off0 := (offA a + (333 : Nat))) ((333 : Nat)) (by kernel_rfl) (by omega) (Xg.get_ints (by omega)) (by kernel_rfl)) ?_
        refine Xg.any_each [1] (by kernel_rfl) rfl ⟨?_, trivial⟩
        refine Xg.comes_act rfl (by kernel_rfl) (by kernel_rfl) (Xg.opx_call1' [0] [A, mp mb IntKind.u8 (typL A2), typS A2, row rb (48 : TypeId) [iv k'.mp, iv k'.bk, Value.slice ka k'.cl.length k'.cl.length, Value.bool k'.bt], row xb1 (29 : TypeId) [Value.string (St []), iv 0, iv 0, iv 0, iv 0, Value.bool false]] (fun _ => by kernel_rfl) (@hsm ) (by kernel_rfl) (by kernel_rfl) (by kernel_rfl) ?_)
        refine Xg.acts (Xg.owes_rd 0 hR (by kernel_rfl) (Xg.owes_rd 0 hR (by kernel_rfl) Xg.owes_nil)) ?_
        refine Xg.any_pure (.bool (!decide (((((231 : Int) - hsum B (25 : Nat)) % (256 : Int)) : Int) = (B.getD (333 : Nat) (0 : Int))))) 5 (by kernel_rfl) rfl (by kernel_rfl) (by kernel_rfl) (by kernel_rfl) (by kernel_rfl) rfl (fun _ => by kernel_rfl) ?_
        refine Xg.any_pure ((Value.bool !decide (((231 : Int) - hsum B (25 : Nat)) % (256 : Int) = B.getD (333 : Nat) (0 : Int)))) 6 (by kernel_rfl) rfl (by kernel_rfl) (by kernel_rfl) (by kernel_rfl) (by kernel_rfl) rfl (fun _ => by kernel_rfl) ?_
        refine Xg.any_nil (by kernel_rfl) ?_
        refine Xg.at_false (t := !decide ((((231 : Int) - hsum B (25 : Nat)) % (256 : Int) = B.getD (333 : Nat) (0 : Int)))) (by kernel_rfl) (by rw [decide_eq_true (by omega)]; rfl) ?_
        refine Xg.at_seq ?_
        refine Xg.at_region ?_
        refine Xg.ops_op (by kernel_rfl) (Xg.opx_pure ((Value.slice a n c)) rfl (fun _ => by kernel_rfl) ?_)
        refine Xg.ops_op (by kernel_rfl) (Xg.opx_rd 0 (.pointer (some (Addr.mk (Xg.blk a) (offA a + (323 : Nat)) none))) rfl hR (by kernel_rfl) (Xg.run_ix_rd (elem := 5) (kd := .i64) (e := ((323 : Int))) 1 ((323 : Nat)) (offA a + (323 : Nat)) (by kernel_rfl) (by kernel_rfl) (by kernel_rfl) (by kernel_rfl) rfl (by omega) (by simp only [List.length_map]; omega) (by omega)) ?_)
        refine Xg.ops_op (by kernel_rfl) (Xg.opx_rd 0 (uv (B.getD (323 : Nat) (0 : Int))) rfl hR (by kernel_rfl) (Xg.run_load_rd (off0 := (offA a + (323 : Nat))) ((323 : Nat)) (by kernel_rfl) (by omega) (Xg.get_ints (by omega)) (by kernel_rfl)) ?_)
        refine Xg.ops_op (by kernel_rfl) (Xg.opx_pure (.bool (decide (((B.getD (323 : Nat) (0 : Int)) : Int) = ((192 : Int))))) rfl (fun _ => by kernel_rfl) ?_)
        refine Xg.ops_op (by kernel_rfl) (Xg.opx_pure ((Value.bool (decide (B.getD (323 : Nat) (0 : Int) = (192 : Int))))) rfl (fun _ => by kernel_rfl) ?_)
        refine Xg.ops_nil ?_
        refine Xg.at_false (t := decide ((B.getD (323 : Nat) (0 : Int) = (192 : Int)))) (by kernel_rfl) (decide_eq_false (by omega)) ?_
        refine Xg.at_seq ?_
        refine Xg.at_region ?_
        refine Xg.ops_op (by kernel_rfl) (Xg.opx_pure ((Value.bool (some k').isSome)) rfl (fun _ => by kernel_rfl) ?_)
        refine Xg.ops_op (by kernel_rfl) (Xg.opx_pure (.bool (!((some k').isSome))) rfl (fun _ => by kernel_rfl) ?_)
        refine Xg.ops_op (by kernel_rfl) (Xg.opx_pure ((Value.bool !(some k').isSome)) rfl (fun _ => by kernel_rfl) ?_)
        refine Xg.ops_nil ?_
        refine Xg.at_false (t := false) (by kernel_rfl) rfl ?_
        refine Xg.at_seq ?_
        refine Xg.at_draw [] [(6, [0, 1, 2, 3, 4, 5, 6], Xg.CellIs (rb) (((1 : Nat))) ((iv k'.bk)))] (by kernel_rfl) ?_
        refine Xg.any_pure ((iv (B.getD (328 : Nat) (0 : Int)))) 0 (by kernel_rfl) rfl (by kernel_rfl) (by kernel_rfl) (by kernel_rfl) (by kernel_rfl) rfl (fun _ => by kernel_rfl) ?_
        refine Xg.any_pure (.bool (decide (((B.getD (328 : Nat) (0 : Int)) : Int) > ((6 : Int))))) 1 (by kernel_rfl) rfl (by kernel_rfl) (by kernel_rfl) (by kernel_rfl) (by kernel_rfl) rfl (fun _ => by kernel_rfl) ?_
        refine Xg.any_pure ((Value.bool (decide (B.getD (328 : Nat) (0 : Int) > (6 : Int))))) 2 (by kernel_rfl) rfl (by kernel_rfl) (by kernel_rfl) (by kernel_rfl) (by kernel_rfl) rfl (fun _ => by kernel_rfl) ?_
        refine Xg.any_flag (j := 57) (c := (decide (B.getD (328 : Nat) (0 : Int) > (6 : Int)))) (by kernel_rfl) (fun xh1 => absurd (of_decide_eq_true xh1) (by omega)) (fun _ => ?_)
        refine Xg.any_pure ((iv (B.getD (328 : Nat) (0 : Int)))) 3 (by kernel_rfl) rfl (by kernel_rfl) (by kernel_rfl) (by kernel_rfl) (by kernel_rfl) rfl (fun _ => by kernel_rfl) ?_
        refine Xg.any_pure (.int .i64 (IntKind.wrap .i64 (((2 : Int)) * 2 ^ min (Int.toNat (B.getD (328 : Nat) (0 : Int))) (IntKind.bits .i64)))) 4 (by kernel_rfl) rfl (by kernel_rfl) (by kernel_rfl) (by kernel_rfl) (by kernel_rfl) rfl (fun _ => Xg.run_shl (k1 := .i64) (k2 := .i64) (m := ((2 : Int))) (e := (B.getD (328 : Nat) (0 : Int))) (by kernel_rfl) (by kernel_rfl) (by omega)) ?_
        refine Xg.any_pure ((pv rb 1)) 5 (by kernel_rfl) rfl (by kernel_rfl) (by kernel_rfl) (by kernel_rfl) (by kernel_rfl) rfl (fun _ => by kernel_rfl) ?_
        refine Xg.any_reads (iv k'.bk) 6 0 (by kernel_rfl) rfl (by kernel_rfl) (by kernel_rfl) (by kernel_rfl) (by kernel_rfl) rfl rfl (by kernel_rfl) (Xg.cell_now (b := rb) (off := ((1 : Nat))) 3 rfl (by kernel_rfl)) (fun _ h => Xg.run_load (by kernel_rfl) (by kernel_rfl) h) ?_
        refine Xg.any_pure (.bool (decide (((IntKind.i64.wrap ((2 : Int) * (2 : Int) ^ min (B.getD (328 : Nat) (0 : Int)).toNat IntKind.i64.bits)) : Int) > k'.bk))) 7 (by kernel_rfl) rfl (by kernel_rfl) (by kernel_rfl) (by kernel_rfl) (by kernel_rfl) rfl (fun _ => by kernel_rfl) ?_
        refine Xg.any_flag (j := 62) (c := (decide (IntKind.i64.wrap ((2 : Int) * (2 : Int) ^ min (B.getD (328 : Nat) (0 : Int)).toNat IntKind.i64.bits) > k'.bk))) (by kernel_rfl) (fun xh1 => absurd (of_decide_eq_true xh1) (by omega)) (fun _ => ?_)
        refine Xg.any_pure ((Value.bool false)) 8 (by kernel_rfl) rfl (by kernel_rfl) (by kernel_rfl) (by kernel_rfl) (by kernel_rfl) rfl (fun _ => by kernel_rfl) ?_
        refine Xg.any_pure ((Value.bool false)) 9 (by kernel_rfl) rfl (by kernel_rfl) (by kernel_rfl) (by kernel_rfl) (by kernel_rfl) rfl (fun _ => by kernel_rfl) ?_
        refine Xg.any_pure ((iv (B.getD (328 : Nat) (0 : Int)))) 10 (by kernel_rfl) rfl (by kernel_rfl) (by kernel_rfl) (by kernel_rfl) (by kernel_rfl) rfl (fun _ => by kernel_rfl) ?_
        refine Xg.any_pure (.int .i64 (IntKind.wrap .i64 (((2 : Int)) * 2 ^ min (Int.toNat (B.getD (328 : Nat) (0 : Int))) (IntKind.bits .i64)))) 11 (by kernel_rfl) rfl (by kernel_rfl) (by kernel_rfl) (by kernel_rfl) (by kernel_rfl) rfl (fun _ => Xg.run_shl (k1 := .i64) (k2 := .i64) (m := ((2 : Int))) (e := (B.getD (328 : Nat) (0 : Int))) (by kernel_rfl) (by kernel_rfl) (by omega)) ?_
        refine Xg.any_int .i64 (IntKind.wrap .i64 ((IntKind.i64.wrap ((2 : Int) * (2 : Int) ^ min (B.getD (328 : Nat) (0 : Int)).toNat IntKind.i64.bits) * (16384 : Int)))) 12 (by kernel_rfl) rfl (by kernel_rfl) (by kernel_rfl) (by kernel_rfl) (by kernel_rfl) rfl (fun _ => by kernel_rfl) (Xg.wrap_i64_in (by omega)) ?_
        refine Xg.any_pure ((Value.slice a n c)) 13 (by kernel_rfl) rfl (by kernel_rfl) (by kernel_rfl) (by kernel_rfl) (by kernel_rfl) rfl (fun _ => by kernel_rfl) ?_
        refine Xg.any_pure ((iv (↑n : Int))) 14 (by kernel_rfl) rfl (by kernel_rfl) (by kernel_rfl) (by kernel_rfl) (by kernel_rfl) rfl (fun _ => by kernel_rfl) ?_
        refine Xg.any_pure (.bool (!decide (((IntKind.i64.wrap ((2 : Int) * (2 : Int) ^ min (B.getD (328 : Nat) (0 : Int)).toNat IntKind.i64.bits) * (16384 : Int)) : Int) = ((↑n : Int))))) 15 (by kernel_rfl) rfl (by kernel_rfl) (by kernel_rfl) (by kernel_rfl) (by kernel_rfl) rfl (fun _ => by kernel_rfl) ?_
        refine Xg.any_flag (j := 70) (c := (!decide (IntKind.i64.wrap ((2 : Int) * (2 : Int) ^ min (B.getD (328 : Nat) (0 : Int)).toNat IntKind.i64.bits) * (16384 : Int) = (↑n : Int)))) (by kernel_rfl) (fun xh1 => absurd xh1 (by rw [decide_eq_true (p := (IntKind.i64.wrap ((2 : Int) * (2 : Int) ^ min (B.getD (328 : Nat) (0 : Int)).toNat IntKind.i64.bits) * (16384 : Int) = (↑n : Int))) (by omega)]; decide)) (fun _ => ?_)
        refine Xg.any_pure ((Value.bool false)) 16 (by kernel_rfl) rfl (by kernel_rfl) (by kernel_rfl) (by kernel_rfl) (by kernel_rfl) rfl (fun _ => by kernel_rfl) ?_
        refine Xg.any_pure ((Value.bool false)) 17 (by kernel_rfl) rfl (by kernel_rfl) (by kernel_rfl) (by kernel_rfl) (by kernel_rfl) rfl (fun _ => by kernel_rfl) ?_
        refine Xg.any_nil (by kernel_rfl) ?_
        refine Xg.at_false (t := false) (by kernel_rfl) rfl ?_
        refine Xg.at_seq ?_
        refine Xg.at_region ?_
        refine Xg.ops_op (by kernel_rfl) (Xg.opx_pure ((pv rb 2)) rfl (fun _ => by kernel_rfl) ?_)
        refine Xg.ops_op (by kernel_rfl) (Xg.opx_load (b := rb) (off := ((2 : Nat))) 3 (Value.slice ka k'.cl.length k'.cl.length) rfl (by kernel_rfl) (by kernel_rfl) (by kernel_rfl) ?_)
        refine Xg.ops_op (by kernel_rfl) (Xg.opx_pure ((iv (↑q9 : Int))) rfl (fun _ => by kernel_rfl) ?_)
        refine Xg.ops_op (by kernel_rfl) (Xg.opx_call1' [2] [typS A2, A, mp mb IntKind.u8 (typL A2), row rb (48 : TypeId) [iv k'.mp, iv k'.bk, Value.slice ka k'.cl.length k'.cl.length, Value.bool k'.bt], row xb1 (29 : TypeId) [Value.string (St []), iv 0, iv 0, iv 0, iv 0, Value.bool false]] (fun _ => by kernel_rfl) (@hha ) (by kernel_rfl) (by kernel_rfl) (by kernel_rfl) ?_)
        refine Xg.ops_op (by kernel_rfl) (Xg.opx_pure (.bool false) rfl (fun _ => by kernel_rfl) ?_)
        refine Xg.ops_op (by kernel_rfl) (Xg.opx_pure ((Value.bool false)) rfl (fun _ => by kernel_rfl) ?_)
        refine Xg.ops_nil ?_
        refine Xg.at_false (t := false) (by kernel_rfl) rfl ?_
        refine Xg.at_skip ?_
        refine Xg.at_inBlock ?_
        refine Xg.at_seq ?_
        refine Xg.at_seq ?_
        refine Xg.at_region ?_
        refine Xg.ops_op (by kernel_rfl) (Xg.opx_pure ((iv 0)) rfl (fun _ => by kernel_rfl) ?_)
        refine Xg.ops_op (by kernel_rfl) (Xg.opx_pure ((Value.bool false)) rfl (fun _ => by kernel_rfl) ?_)
        refine Xg.ops_nil ?_
        refine Xg.at_false (t := false) (by kernel_rfl) rfl ?_
        refine Xg.at_skip ?_
        refine Xg.at_seq ?_
        refine Xg.at_draw [2, 11, 13, 14, 18, 19] [(4, [0, 1, 2, 3, 4, 7, 8, 9, 10, 11, 12, 13, 14, 15, 16, 18], (RdIs (1 : Nat) (Value.slice a n c) n (List.map (Value.int IntKind.u8) B))), (5, [0, 1, 2, 3, 4, 5, 7, 8, 9, 10, 11, 12, 13, 14, 15, 16, 18], (RdIs (1 : Nat) (Value.slice a n c) n (List.map (Value.int IntKind.u8) B))), (8, [0, 1, 2, 3, 4, 5, 6, 7, 8, 9, 10, 11, 12, 13, 14, 15, 16, 18], Xg.CellIs (rb) (((0 : Nat))) ((iv k'.mp))), (16, [0, 1, 2, 3, 4, 5, 6, 7, 8, 9, 10, 11, 12, 13, 14, 15, 16, 18], Xg.CellIs (rb) (((3 : Nat))) ((Value.bool k'.bt)))] (by kernel_rfl) ?_
        refine Xg.any_pure ((Value.slice a n c)) 0 (by kernel_rfl) rfl (by kernel_rfl) (by kernel_rfl) (by kernel_rfl) (by kernel_rfl) rfl (fun _ => by kernel_rfl) ?_
        refine Xg.any_pure (.slice (Xg.subA a c ((308 : Nat)) 1) (((323 : Nat)) - ((308 : Nat))) (c - ((308 : Nat)))) 1 (by kernel_rfl) rfl (by kernel_rfl) (by kernel_rfl) (by kernel_rfl) (by kernel_rfl) rfl (Xg.run_sl (elem := 5) (a := a) (c := c) (len := n) (k1 := .i64) (k2 := .i64) (e1 := ((308 : Int))) (e2 := ((323 : Int))) 1 ((308 : Nat)) ((323 : Nat)) (by kernel_rfl) (by kernel_rfl) (by kernel_rfl) (by kernel_rfl) (by kernel_rfl) rfl rfl (by omega) (by omega)) ?_
        refine Xg.any_pure ((Value.slice a n c)) 3 (by kernel_rfl) rfl (by kernel_rfl) (by kernel_rfl) (by kernel_rfl) (by kernel_rfl) rfl (fun _ => by kernel_rfl) ?_
        refine Xg.any_reads (.pointer (some (Addr.mk (Xg.blk a) (offA a + (327 : Nat)) none))) 4 0 (by kernel_rfl) rfl (by kernel_rfl) (by kernel_rfl) (by kernel_rfl) (by kernel_rfl) rfl rfl (by kernel_rfl) (Xg.rd_now 1 hR (by kernel_rfl)) (Xg.run_ix_rd (elem := 5) (kd := .i64) (e := ((327 : Int))) 1 ((327 : Nat)) (offA a + (327 : Nat)) (by kernel_rfl) (by kernel_rfl) (by kernel_rfl) (by kernel_rfl) rfl (by omega) (by simp only [List.length_map]; omega) (by omega)) ?_
        refine Xg.any_reads (uv (B.getD (327 : Nat) (0 : Int))) 5 1 (by kernel_rfl) rfl (by kernel_rfl) (by kernel_rfl) (by kernel_rfl) (by kernel_rfl) rfl rfl (by kernel_rfl) (Xg.rd_now 1 hR (by kernel_rfl)) (Xg.run_load_rd (off0 := (offA a + (327 : Nat))) ((327 : Nat)) (by kernel_rfl) (by omega) (Xg.get_ints (by omega)) (by kernel_rfl)) ?_
        refine Xg.any_int .i64 (IntKind.wrap .i64 ((B.getD (327 : Nat) (0 : Int)))) 6 (by kernel_rfl) rfl (by kernel_rfl) (by kernel_rfl) (by kernel_rfl) (by kernel_rfl) rfl (fun _ => by kernel_rfl) (Xg.wrap_i64_in (by omega)) ?_
        refine Xg.any_pure ((pv rb 0)) 7 (by kernel_rfl) rfl (by kernel_rfl) (by kernel_rfl) (by kernel_rfl) (by kernel_rfl) rfl (fun _ => by kernel_rfl) ?_
        refine Xg.any_reads (iv k'.mp) 8 2 (by kernel_rfl) rfl (by kernel_rfl) (by kernel_rfl) (by kernel_rfl) (by kernel_rfl) rfl rfl (by kernel_rfl) (Xg.cell_now (b := rb) (off := ((0 : Nat))) 3 rfl (by kernel_rfl)) (fun _ h => Xg.run_load (by kernel_rfl) (by kernel_rfl) h) ?_
        refine Xg.any_pure ((iv (B.getD (328 : Nat) (0 : Int)))) 9 (by kernel_rfl) rfl (by kernel_rfl) (by kernel_rfl) (by kernel_rfl) (by kernel_rfl) rfl (fun _ => by kernel_rfl) ?_
        refine Xg.any_pure (.int .i64 (IntKind.wrap .i64 (((2 : Int)) * 2 ^ min (Int.toNat (B.getD (328 : Nat) (0 : Int))) (IntKind.bits .i64)))) 10 (by kernel_rfl) rfl (by kernel_rfl) (by kernel_rfl) (by kernel_rfl) (by kernel_rfl) rfl (fun _ => Xg.run_shl (k1 := .i64) (k2 := .i64) (m := ((2 : Int))) (e := (B.getD (328 : Nat) (0 : Int))) (by kernel_rfl) (by kernel_rfl) (by omega)) ?_
        refine Xg.any_pure ((iv (↑q9 : Int))) 12 (by kernel_rfl) rfl (by kernel_rfl) (by kernel_rfl) (by kernel_rfl) (by kernel_rfl) rfl (fun _ => by kernel_rfl) ?_
        refine Xg.any_pure ((pv rb 3)) 15 (by kernel_rfl) rfl (by kernel_rfl) (by kernel_rfl) (by kernel_rfl) (by kernel_rfl) rfl (fun _ => by kernel_rfl) ?_
        refine Xg.any_reads (Value.bool k'.bt) 16 3 (by kernel_rfl) rfl (by kernel_rfl) (by kernel_rfl) (by kernel_rfl) (by kernel_rfl) rfl rfl (by kernel_rfl) (Xg.cell_now (b := rb) (off := ((3 : Nat))) 3 rfl (by kernel_rfl)) (fun _ h => Xg.run_load (by kernel_rfl) (by kernel_rfl) h) ?_
        refine Xg.any_each [2, 18] (by kernel_rfl) rfl ⟨?_, ?_, trivial⟩
        refine Xg.comes_act rfl (by kernel_rfl) (by kernel_rfl) (Xg.opx_call1' [1] [A, typS A2, mp mb IntKind.u8 (typL A2), row rb (48 : TypeId) [iv k'.mp, iv k'.bk, Value.slice ka k'.cl.length k'.cl.length, Value.bool k'.bt], row xb1 (29 : TypeId) [Value.string (St []), iv 0, iv 0, iv 0, iv 0, Value.bool false]] (fun _ => by kernel_rfl) (@hti ) (by kernel_rfl) (by kernel_rfl) (by kernel_rfl) ?_)
        refine Xg.acts (Xg.owes_rd 0 hR (by kernel_rfl) (Xg.owes_rd 0 hR (by kernel_rfl) (Xg.owes_cell 3 rfl (by kernel_rfl) (Xg.owes_cell 3 rfl (by kernel_rfl) Xg.owes_nil)))) ?_
        rotate_left
        refine Xg.comes_act rfl (by kernel_rfl) (by kernel_rfl) (Xg.opx_new 6 [Value.string (ByteArray.mk #[]), iv 0, iv 0, iv 0, iv 0, Value.bool false] (by kernel_rfl) (by kernel_rfl) fun xb2 => ?_)
        refine Xg.acts (Xg.owes_rd 2 hR (by kernel_rfl) (Xg.owes_rd 2 hR (by kernel_rfl) (Xg.owes_cell 4 rfl (by kernel_rfl) (Xg.owes_cell 4 rfl (by kernel_rfl) Xg.owes_nil)))) ?_
        rotate_left
        refine Xg.any_each [11, 18] (by kernel_rfl) rfl ⟨?_, ?_, trivial⟩
        refine Xg.comes_act rfl (by kernel_rfl) (by kernel_rfl) (Xg.opx_callE' [] (fun xx1 => [ownS (3 : TypeId) (1 : Nat) (Value.slice xx1.fst (6 : Nat) (6 : Nat)) (6 : Nat) (List.map (Value.int IntKind.i64) xx1.snd), A, typS A2, mp mb IntKind.u8 (typL A2), row rb (48 : TypeId) [iv k'.mp, iv k'.bk, Value.slice ka k'.cl.length k'.cl.length, Value.bool k'.bt], row xb1 (29 : TypeId) [Value.string (St []), iv 0, iv 0, iv 0, iv 0, Value.bool false]]) (fun _ => by kernel_rfl) (@Go.Proofs.YthjhkondmobaeaaDoor.rams_o ) (by kernel_rfl) (by kernel_rfl) (by kernel_rfl) fun xx1 xh1 => ?_)
        try dsimp only at xh1
        obtain ⟨xh1_0, xh1_1⟩ := xh1
        refine Xg.acts (Xg.owes_rd 1 hR (by kernel_rfl) (Xg.owes_rd 1 hR (by kernel_rfl) (Xg.owes_cell 4 rfl (by kernel_rfl) (Xg.owes_cell 4 rfl (by kernel_rfl) Xg.owes_nil)))) ?_
        rotate_left
        refine Xg.comes_act rfl (by kernel_rfl) (by kernel_rfl) (Xg.opx_new 6 [Value.string (ByteArray.mk #[]), iv 0, iv 0, iv 0, iv 0, Value.bool false] (by kernel_rfl) (by kernel_rfl) fun xb2 => ?_)
        refine Xg.acts (Xg.owes_rd 1 hR (by kernel_rfl) (Xg.owes_rd 1 hR (by kernel_rfl) (Xg.owes_cell 4 rfl (by kernel_rfl) (Xg.owes_cell 4 rfl (by kernel_rfl) Xg.owes_nil)))) ?_
        rotate_left
        refine Xg.any_each [2] (by kernel_rfl) rfl ⟨?_, trivial⟩
        refine Xg.comes_act rfl (by kernel_rfl) (by kernel_rfl) (Xg.opx_call1' [2] [A, row xb2 (29 : Nat) [Value.string (ByteArray.mk #[]), iv 0, iv 0, iv 0, iv 0, Value.bool false], typS A2, mp mb IntKind.u8 (typL A2), row rb (48 : TypeId) [iv k'.mp, iv k'.bk, Value.slice ka k'.cl.length k'.cl.length, Value.bool k'.bt], row xb1 (29 : TypeId) [Value.string (St []), iv 0, iv 0, iv 0, iv 0, Value.bool false]] (fun _ => by kernel_rfl) (@hti ) (by kernel_rfl) (by kernel_rfl) (by kernel_rfl) ?_)
        refine Xg.acts (Xg.owes_rd 0 hR (by kernel_rfl) (Xg.owes_rd 0 hR (by kernel_rfl) (Xg.owes_cell 4 rfl (by kernel_rfl) (Xg.owes_cell 4 rfl (by kernel_rfl) Xg.owes_nil)))) ?_
        refine Xg.any_each [11] (by kernel_rfl) rfl ⟨?_, trivial⟩
        refine Xg.comes_act rfl (by kernel_rfl) (by kernel_rfl) (Xg.opx_callE' [] (fun xx1 => [ownS (3 : TypeId) (1 : Nat) (Value.slice xx1.fst (6 : Nat) (6 : Nat)) (6 : Nat) (List.map (Value.int IntKind.i64) xx1.snd), A, row xb2 (29 : Nat) [Value.string (ByteArray.mk #[]), iv 0, iv 0, iv 0, iv 0, Value.bool false], typS A2, mp mb IntKind.u8 (typL A2), row rb (48 : TypeId) [iv k'.mp, iv k'.bk, Value.slice ka k'.cl.length k'.cl.length, Value.bool k'.bt], row xb1 (29 : TypeId) [Value.string (St []), iv 0, iv 0, iv 0, iv 0, Value.bool false]]) (fun _ => by kernel_rfl) (@Go.Proofs.YthjhkondmobaeaaDoor.rams_o ) (by kernel_rfl) (by kernel_rfl) (by kernel_rfl) fun xx1 xh1 => ?_)
        try dsimp only at xh1
        obtain ⟨xh1_0, xh1_1⟩ := xh1
        refine Xg.acts (Xg.owes_rd 1 hR (by kernel_rfl) (Xg.owes_rd 1 hR (by kernel_rfl) (Xg.owes_cell 5 rfl (by kernel_rfl) (Xg.owes_cell 5 rfl (by kernel_rfl) Xg.owes_nil)))) ?_
        refine Xg.any_each [13] (by kernel_rfl) rfl ⟨?_, trivial⟩
        refine Xg.comes_act rfl (by kernel_rfl) (by kernel_rfl) (Xg.opx_rd 0 (.pointer (some (Addr.mk (Xg.blk xx1.fst) (offA xx1.fst + q9) none))) rfl (Xg.reads_own (E := ((3 : TypeId))) (sz := ((1 : Nat))) (n := ((6 : Nat))) (c := ((6 : Nat))) (a := xx1.fst) (vs := (List.map (Value.int IntKind.i64) xx1.snd))) (by kernel_rfl) (Xg.run_ix_rd (elem := 3) (kd := .i64) (e := ((↑q9 : Int))) 1 q9 (offA xx1.fst + q9) (by kernel_rfl) (by kernel_rfl) (by kernel_rfl) (by kernel_rfl) rfl (by omega) (by simp only [List.length_map]; omega) (by omega)) ?_)
        refine Xg.acts (Xg.owes_rd 1 hR (by kernel_rfl) (Xg.owes_rd 1 hR (by kernel_rfl) (Xg.owes_cell 5 rfl (by kernel_rfl) (Xg.owes_cell 5 rfl (by kernel_rfl) Xg.owes_nil)))) ?_
        refine Xg.any_each [14] (by kernel_rfl) rfl ⟨?_, trivial⟩
        refine Xg.comes_act rfl (by kernel_rfl) (by kernel_rfl) (Xg.opx_rd 0 (iv (xx1.snd.getD q9 (0 : Int))) rfl (Xg.reads_own (E := ((3 : TypeId))) (sz := ((1 : Nat))) (n := ((6 : Nat))) (c := ((6 : Nat))) (a := xx1.fst) (vs := (List.map (Value.int IntKind.i64) xx1.snd))) (by kernel_rfl) (Xg.run_load_rd (off0 := (offA xx1.fst + q9)) q9 (by kernel_rfl) (by omega) (Xg.get_ints (by omega)) (by kernel_rfl)) ?_)
        refine Xg.acts (Xg.owes_rd 1 hR (by kernel_rfl) (Xg.owes_rd 1 hR (by kernel_rfl) (Xg.owes_cell 5 rfl (by kernel_rfl) (Xg.owes_cell 5 rfl (by kernel_rfl) Xg.owes_nil)))) ?_
        refine Xg.any_pure ((Value.agg #[Value.string (St tt), iv (B.getD (327 : Nat) (0 : Int)), iv k'.mp, iv (IntKind.i64.wrap ((2 : Int) * (2 : Int) ^ min (B.getD (328 : Nat) (0 : Int)).toNat IntKind.i64.bits)), iv (xx1.snd.getD q9 (0 : Int)), Value.bool k'.bt])) 17 (by kernel_rfl) rfl (by kernel_rfl) (by kernel_rfl) (by kernel_rfl) (by kernel_rfl) rfl (fun _ => by kernel_rfl) ?_
        refine Xg.any_each [19] (by kernel_rfl) rfl ⟨?_, trivial⟩
        refine Xg.comes_act rfl (by kernel_rfl) (by kernel_rfl) (Xg.opx_storen 6 (off := 0) 2 [Value.string (St tt), iv (B.getD (327 : Nat) (0 : Int)), iv k'.mp, iv (IntKind.i64.wrap ((2 : Int) * (2 : Int) ^ min (B.getD (328 : Nat) (0 : Int)).toNat IntKind.i64.bits)), iv (xx1.snd.getD q9 (0 : Int)), Value.bool k'.bt] (by kernel_rfl) rfl (by kernel_rfl) (by kernel_rfl) rfl (by kernel_rfl) (Nat.le_of_ble_eq_true (by kernel_rfl)) ?_)
        refine Xg.acts (Xg.owes_skip (by kernel_rfl) (Xg.owes_skip (by kernel_rfl) (Xg.owes_skip (by kernel_rfl) (Xg.owes_skip (by kernel_rfl) Xg.owes_nil)))) ?_
        refine Xg.any_nil (by kernel_rfl) ?_
        refine Xg.at_seq ?_
        refine Xg.at_seq ?_
        refine Xg.at_region ?_
        refine Xg.ops_op (by kernel_rfl) (Xg.opx_pure ((pv rb 0)) rfl (fun _ => by kernel_rfl) ?_)
        refine Xg.ops_op (by kernel_rfl) (Xg.opx_load (b := rb) (off := ((0 : Nat))) 5 (iv k'.mp) rfl (by kernel_rfl) (by kernel_rfl) (by kernel_rfl) ?_)
        refine Xg.ops_op (by kernel_rfl) (Xg.opx_pure (.bool (decide ((k'.mp : Int) = ((2 : Int))))) rfl (fun _ => by kernel_rfl) ?_)
        refine Xg.ops_nil ?_
        refine Xg.at_false (t := decide ((k'.mp = (2 : Int)))) (by kernel_rfl) (decide_eq_false (by omega)) ?_
        refine Xg.at_skip ?_
        refine Xg.at_seq ?_
        refine Xg.at_region ?_
        refine Xg.ops_op (by kernel_rfl) (Xg.opx_loadn (off := 0) 6 2 [Value.string (St tt), iv (B.getD (327 : Nat) (0 : Int)), iv k'.mp, iv (IntKind.i64.wrap ((2 : Int) * (2 : Int) ^ min (B.getD (328 : Nat) (0 : Int)).toNat IntKind.i64.bits)), iv (xx1.snd.getD q9 (0 : Int)), Value.bool k'.bt] (by kernel_rfl) rfl (by kernel_rfl) rfl (Xg.cells_at (by kernel_rfl)) (by kernel_rfl) ?_)
        refine Xg.ops_op (by kernel_rfl) (Xg.opx_storen 6 (off := 0) 6 [Value.string (St tt), iv (B.getD (327 : Nat) (0 : Int)), iv k'.mp, iv (IntKind.i64.wrap ((2 : Int) * (2 : Int) ^ min (B.getD (328 : Nat) (0 : Int)).toNat IntKind.i64.bits)), iv (xx1.snd.getD q9 (0 : Int)), Value.bool k'.bt] (by kernel_rfl) rfl (by kernel_rfl) (by kernel_rfl) rfl (by kernel_rfl) (Nat.le_of_ble_eq_true (by kernel_rfl)) ?_)
        refine Xg.ops_op (by kernel_rfl) (Xg.opx_pure ((iv 0)) rfl (fun _ => by kernel_rfl) ?_)
        refine Xg.ops_nil ?_
        refine Xg.at_ret_feed (v := (Value.tuple #[Value.agg #[Value.string (St tt), iv (B.getD (327 : Nat) (0 : Int)), iv k'.mp, iv (IntKind.i64.wrap ((2 : Int) * (2 : Int) ^ min (B.getD (328 : Nat) (0 : Int)).toNat IntKind.i64.bits)), iv (xx1.snd.getD q9 (0 : Int)), Value.bool k'.bt], iv 0])) [(Addr.mk xb1 (0 : Nat) none), (Addr.mk xb1 (1 : Nat) none), (Addr.mk xb1 (2 : Nat) none), (Addr.mk xb1 (3 : Nat) none), (Addr.mk xb1 (4 : Nat) none), (Addr.mk xb1 (5 : Nat) none)] [Value.string (St tt), iv (B.getD (327 : Nat) (0 : Int)), iv k'.mp, iv (IntKind.i64.wrap ((2 : Int) * (2 : Int) ^ min (B.getD (328 : Nat) (0 : Int)).toNat IntKind.i64.bits)), iv (xx1.snd.getD q9 (0 : Int)), Value.bool k'.bt] [1] [A] Go.Proofs.Tryd.func9 (by kernel_rfl) (Xg.cells_cons (b := xb1) (off := 0) 6 rfl (by kernel_rfl) (Xg.cells_cons (b := xb1) (off := 1) 6 rfl (by kernel_rfl) (Xg.cells_cons (b := xb1) (off := 2) 6 rfl (by kernel_rfl) (Xg.cells_cons (b := xb1) (off := 3) 6 rfl (by kernel_rfl) (Xg.cells_cons (b := xb1) (off := 4) 6 rfl (by kernel_rfl) (Xg.cells_cons (b := xb1) (off := 5) 6 rfl (by kernel_rfl) Xg.cells_nil)))))) (by kernel_rfl) (by kernel_rfl) ?_
        rotate_left
        refine Xg.any_each [13, 18] (by kernel_rfl) rfl ⟨?_, ?_, trivial⟩
        refine Xg.comes_act rfl (by kernel_rfl) (by kernel_rfl) (Xg.opx_rd 0 (.pointer (some (Addr.mk (Xg.blk xx1.fst) (offA xx1.fst + q9) none))) rfl (Xg.reads_own (E := ((3 : TypeId))) (sz := ((1 : Nat))) (n := ((6 : Nat))) (c := ((6 : Nat))) (a := xx1.fst) (vs := (List.map (Value.int IntKind.i64) xx1.snd))) (by kernel_rfl) (Xg.run_ix_rd (elem := 3) (kd := .i64) (e := ((↑q9 : Int))) 1 q9 (offA xx1.fst + q9) (by kernel_rfl) (by kernel_rfl) (by kernel_rfl) (by kernel_rfl) rfl (by omega) (by simp only [List.length_map]; omega) (by omega)) ?_)
        refine Xg.acts (Xg.owes_rd 1 hR (by kernel_rfl) (Xg.owes_rd 1 hR (by kernel_rfl) (Xg.owes_cell 4 rfl (by kernel_rfl) (Xg.owes_cell 4 rfl (by kernel_rfl) Xg.owes_nil)))) ?_
        rotate_left
        refine Xg.comes_act rfl (by kernel_rfl) (by kernel_rfl) (Xg.opx_new 6 [Value.string (ByteArray.mk #[]), iv 0, iv 0, iv 0, iv 0, Value.bool false] (by kernel_rfl) (by kernel_rfl) fun xb2 => ?_)
        refine Xg.acts (Xg.owes_rd 2 hR (by kernel_rfl) (Xg.owes_rd 2 hR (by kernel_rfl) (Xg.owes_cell 5 rfl (by kernel_rfl) (Xg.owes_cell 5 rfl (by kernel_rfl) Xg.owes_nil)))) ?_
        rotate_left
        refine Xg.any_each [11] (by kernel_rfl) rfl ⟨?_, trivial⟩
        refine Xg.comes_act rfl (by kernel_rfl) (by kernel_rfl) (Xg.opx_callE' [] (fun xx1 => [ownS (3 : TypeId) (1 : Nat) (Value.slice xx1.fst (6 : Nat) (6 : Nat)) (6 : Nat) (List.map (Value.int IntKind.i64) xx1.snd), row xb2 (29 : Nat) [Value.string (ByteArray.mk #[]), iv 0, iv 0, iv 0, iv 0, Value.bool false], A, typS A2, mp mb IntKind.u8 (typL A2), row rb (48 : TypeId) [iv k'.mp, iv k'.bk, Value.slice ka k'.cl.length k'.cl.length, Value.bool k'.bt], row xb1 (29 : TypeId) [Value.string (St []), iv 0, iv 0, iv 0, iv 0, Value.bool false]]) (fun _ => by kernel_rfl) (@Go.Proofs.YthjhkondmobaeaaDoor.rams_o ) (by kernel_rfl) (by kernel_rfl) (by kernel_rfl) fun xx1 xh1 => ?_)
        try dsimp only at xh1
        obtain ⟨xh1_0, xh1_1⟩ := xh1
        refine Xg.acts (Xg.owes_rd 2 hR (by kernel_rfl) (Xg.owes_rd 2 hR (by kernel_rfl) (Xg.owes_cell 5 rfl (by kernel_rfl) (Xg.owes_cell 5 rfl (by kernel_rfl) Xg.owes_nil)))) ?_
        refine Xg.any_each [13] (by kernel_rfl) rfl ⟨?_, trivial⟩
        refine Xg.comes_act rfl (by kernel_rfl) (by kernel_rfl) (Xg.opx_rd 0 (.pointer (some (Addr.mk (Xg.blk xx1.fst) (offA xx1.fst + q9) none))) rfl (Xg.reads_own (E := ((3 : TypeId))) (sz := ((1 : Nat))) (n := ((6 : Nat))) (c := ((6 : Nat))) (a := xx1.fst) (vs := (List.map (Value.int IntKind.i64) xx1.snd))) (by kernel_rfl) (Xg.run_ix_rd (elem := 3) (kd := .i64) (e := ((↑q9 : Int))) 1 q9 (offA xx1.fst + q9) (by kernel_rfl) (by kernel_rfl) (by kernel_rfl) (by kernel_rfl) rfl (by omega) (by simp only [List.length_map]; omega) (by omega)) ?_)
        refine Xg.acts (Xg.owes_rd 2 hR (by kernel_rfl) (Xg.owes_rd 2 hR (by kernel_rfl) (Xg.owes_cell 5 rfl (by kernel_rfl) (Xg.owes_cell 5 rfl (by kernel_rfl) Xg.owes_nil)))) ?_
        refine Xg.any_each [14] (by kernel_rfl) rfl ⟨?_, trivial⟩
        refine Xg.comes_act rfl (by kernel_rfl) (by kernel_rfl) (Xg.opx_rd 0 (iv (xx1.snd.getD q9 (0 : Int))) rfl (Xg.reads_own (E := ((3 : TypeId))) (sz := ((1 : Nat))) (n := ((6 : Nat))) (c := ((6 : Nat))) (a := xx1.fst) (vs := (List.map (Value.int IntKind.i64) xx1.snd))) (by kernel_rfl) (Xg.run_load_rd (off0 := (offA xx1.fst + q9)) q9 (by kernel_rfl) (by omega) (Xg.get_ints (by omega)) (by kernel_rfl)) ?_)
        refine Xg.acts (Xg.owes_rd 2 hR (by kernel_rfl) (Xg.owes_rd 2 hR (by kernel_rfl) (Xg.owes_cell 5 rfl (by kernel_rfl) (Xg.owes_cell 5 rfl (by kernel_rfl) Xg.owes_nil)))) ?_
        refine Xg.any_pure ((Value.agg #[Value.string (St tt), iv (B.getD (327 : Nat) (0 : Int)), iv k'.mp, iv (IntKind.i64.wrap ((2 : Int) * (2 : Int) ^ min (B.getD (328 : Nat) (0 : Int)).toNat IntKind.i64.bits)), iv (xx1.snd.getD q9 (0 : Int)), Value.bool k'.bt])) 17 (by kernel_rfl) rfl (by kernel_rfl) (by kernel_rfl) (by kernel_rfl) (by kernel_rfl) rfl (fun _ => by kernel_rfl) ?_
        refine Xg.any_each [19] (by kernel_rfl) rfl ⟨?_, trivial⟩
        refine Xg.comes_act rfl (by kernel_rfl) (by kernel_rfl) (Xg.opx_storen 6 (off := 0) 1 [Value.string (St tt), iv (B.getD (327 : Nat) (0 : Int)), iv k'.mp, iv (IntKind.i64.wrap ((2 : Int) * (2 : Int) ^ min (B.getD (328 : Nat) (0 : Int)).toNat IntKind.i64.bits)), iv (xx1.snd.getD q9 (0 : Int)), Value.bool k'.bt] (by kernel_rfl) rfl (by kernel_rfl) (by kernel_rfl) rfl (by kernel_rfl) (Nat.le_of_ble_eq_true (by kernel_rfl)) ?_)
        refine Xg.acts (Xg.owes_skip (by kernel_rfl) (Xg.owes_skip (by kernel_rfl) (Xg.owes_skip (by kernel_rfl) (Xg.owes_skip (by kernel_rfl) Xg.owes_nil)))) ?_
        refine Xg.any_nil (by kernel_rfl) ?_
        refine Xg.at_seq ?_
        refine Xg.at_seq ?_
        refine Xg.at_region ?_
        refine Xg.ops_op (by kernel_rfl) (Xg.opx_pure ((pv rb 0)) rfl (fun _ => by kernel_rfl) ?_)
        refine Xg.ops_op (by kernel_rfl) (Xg.opx_load (b := rb) (off := ((0 : Nat))) 5 (iv k'.mp) rfl (by kernel_rfl) (by kernel_rfl) (by kernel_rfl) ?_)
        refine Xg.ops_op (by kernel_rfl) (Xg.opx_pure (.bool (decide ((k'.mp : Int) = ((2 : Int))))) rfl (fun _ => by kernel_rfl) ?_)
        refine Xg.ops_nil ?_
        refine Xg.at_false (t := decide ((k'.mp = (2 : Int)))) (by kernel_rfl) (decide_eq_false (by omega)) ?_
        refine Xg.at_skip ?_
        refine Xg.at_seq ?_
        refine Xg.at_region ?_
        refine Xg.ops_op (by kernel_rfl) (Xg.opx_loadn (off := 0) 6 1 [Value.string (St tt), iv (B.getD (327 : Nat) (0 : Int)), iv k'.mp, iv (IntKind.i64.wrap ((2 : Int) * (2 : Int) ^ min (B.getD (328 : Nat) (0 : Int)).toNat IntKind.i64.bits)), iv (xx1.snd.getD q9 (0 : Int)), Value.bool k'.bt] (by kernel_rfl) rfl (by kernel_rfl) rfl (Xg.cells_at (by kernel_rfl)) (by kernel_rfl) ?_)
        refine Xg.ops_op (by kernel_rfl) (Xg.opx_storen 6 (off := 0) 6 [Value.string (St tt), iv (B.getD (327 : Nat) (0 : Int)), iv k'.mp, iv (IntKind.i64.wrap ((2 : Int) * (2 : Int) ^ min (B.getD (328 : Nat) (0 : Int)).toNat IntKind.i64.bits)), iv (xx1.snd.getD q9 (0 : Int)), Value.bool k'.bt] (by kernel_rfl) rfl (by kernel_rfl) (by kernel_rfl) rfl (by kernel_rfl) (Nat.le_of_ble_eq_true (by kernel_rfl)) ?_)
        refine Xg.ops_op (by kernel_rfl) (Xg.opx_pure ((iv 0)) rfl (fun _ => by kernel_rfl) ?_)
        refine Xg.ops_nil ?_
        refine Xg.at_ret_feed (v := (Value.tuple #[Value.agg #[Value.string (St tt), iv (B.getD (327 : Nat) (0 : Int)), iv k'.mp, iv (IntKind.i64.wrap ((2 : Int) * (2 : Int) ^ min (B.getD (328 : Nat) (0 : Int)).toNat IntKind.i64.bits)), iv (xx1.snd.getD q9 (0 : Int)), Value.bool k'.bt], iv 0])) [(Addr.mk xb1 (0 : Nat) none), (Addr.mk xb1 (1 : Nat) none), (Addr.mk xb1 (2 : Nat) none), (Addr.mk xb1 (3 : Nat) none), (Addr.mk xb1 (4 : Nat) none), (Addr.mk xb1 (5 : Nat) none)] [Value.string (St tt), iv (B.getD (327 : Nat) (0 : Int)), iv k'.mp, iv (IntKind.i64.wrap ((2 : Int) * (2 : Int) ^ min (B.getD (328 : Nat) (0 : Int)).toNat IntKind.i64.bits)), iv (xx1.snd.getD q9 (0 : Int)), Value.bool k'.bt] [2] [A] Go.Proofs.Tryd.func9 (by kernel_rfl) (Xg.cells_cons (b := xb1) (off := 0) 6 rfl (by kernel_rfl) (Xg.cells_cons (b := xb1) (off := 1) 6 rfl (by kernel_rfl) (Xg.cells_cons (b := xb1) (off := 2) 6 rfl (by kernel_rfl) (Xg.cells_cons (b := xb1) (off := 3) 6 rfl (by kernel_rfl) (Xg.cells_cons (b := xb1) (off := 4) 6 rfl (by kernel_rfl) (Xg.cells_cons (b := xb1) (off := 5) 6 rfl (by kernel_rfl) Xg.cells_nil)))))) (by kernel_rfl) (by kernel_rfl) ?_
        rotate_left
        rotate_left
        refine Xg.any_each [14, 18] (by kernel_rfl) rfl ⟨?_, ?_, trivial⟩
        refine Xg.comes_act rfl (by kernel_rfl) (by kernel_rfl) (Xg.opx_rd 0 (iv (xx1.snd.getD q9 (0 : Int))) rfl (Xg.reads_own (E := ((3 : TypeId))) (sz := ((1 : Nat))) (n := ((6 : Nat))) (c := ((6 : Nat))) (a := xx1.fst) (vs := (List.map (Value.int IntKind.i64) xx1.snd))) (by kernel_rfl) (Xg.run_load_rd (off0 := (offA xx1.fst + q9)) q9 (by kernel_rfl) (by omega) (Xg.get_ints (by omega)) (by kernel_rfl)) ?_)
        refine Xg.acts (Xg.owes_rd 1 hR (by kernel_rfl) (Xg.owes_rd 1 hR (by kernel_rfl) (Xg.owes_cell 4 rfl (by kernel_rfl) (Xg.owes_cell 4 rfl (by kernel_rfl) Xg.owes_nil)))) ?_
        rotate_left
        refine Xg.comes_act rfl (by kernel_rfl) (by kernel_rfl) (Xg.opx_new 6 [Value.string (ByteArray.mk #[]), iv 0, iv 0, iv 0, iv 0, Value.bool false] (by kernel_rfl) (by kernel_rfl) fun xb2 => ?_)
        refine Xg.acts (Xg.owes_rd 2 hR (by kernel_rfl) (Xg.owes_rd 2 hR (by kernel_rfl) (Xg.owes_cell 5 rfl (by kernel_rfl) (Xg.owes_cell 5 rfl (by kernel_rfl) Xg.owes_nil)))) ?_
        rotate_left
        refine Xg.any_each [13] (by kernel_rfl) rfl ⟨?_, trivial⟩
        refine Xg.comes_act rfl (by kernel_rfl) (by kernel_rfl) (Xg.opx_rd 1 (.pointer (some (Addr.mk (Xg.blk xx1.fst) (offA xx1.fst + q9) none))) rfl (Xg.reads_own (E := ((3 : TypeId))) (sz := ((1 : Nat))) (n := ((6 : Nat))) (c := ((6 : Nat))) (a := xx1.fst) (vs := (List.map (Value.int IntKind.i64) xx1.snd))) (by kernel_rfl) (Xg.run_ix_rd (elem := 3) (kd := .i64) (e := ((↑q9 : Int))) 1 q9 (offA xx1.fst + q9) (by kernel_rfl) (by kernel_rfl) (by kernel_rfl) (by kernel_rfl) rfl (by omega) (by simp only [List.length_map]; omega) (by omega)) ?_)
        refine Xg.acts (Xg.owes_rd 2 hR (by kernel_rfl) (Xg.owes_rd 2 hR (by kernel_rfl) (Xg.owes_cell 5 rfl (by kernel_rfl) (Xg.owes_cell 5 rfl (by kernel_rfl) Xg.owes_nil)))) ?_
        refine Xg.any_each [14] (by kernel_rfl) rfl ⟨?_, trivial⟩
        refine Xg.comes_act rfl (by kernel_rfl) (by kernel_rfl) (Xg.opx_rd 1 (iv (xx1.snd.getD q9 (0 : Int))) rfl (Xg.reads_own (E := ((3 : TypeId))) (sz := ((1 : Nat))) (n := ((6 : Nat))) (c := ((6 : Nat))) (a := xx1.fst) (vs := (List.map (Value.int IntKind.i64) xx1.snd))) (by kernel_rfl) (Xg.run_load_rd (off0 := (offA xx1.fst + q9)) q9 (by kernel_rfl) (by omega) (Xg.get_ints (by omega)) (by kernel_rfl)) ?_)
        refine Xg.acts (Xg.owes_rd 2 hR (by kernel_rfl) (Xg.owes_rd 2 hR (by kernel_rfl) (Xg.owes_cell 5 rfl (by kernel_rfl) (Xg.owes_cell 5 rfl (by kernel_rfl) Xg.owes_nil)))) ?_
        refine Xg.any_pure ((Value.agg #[Value.string (St tt), iv (B.getD (327 : Nat) (0 : Int)), iv k'.mp, iv (IntKind.i64.wrap ((2 : Int) * (2 : Int) ^ min (B.getD (328 : Nat) (0 : Int)).toNat IntKind.i64.bits)), iv (xx1.snd.getD q9 (0 : Int)), Value.bool k'.bt])) 17 (by kernel_rfl) rfl (by kernel_rfl) (by kernel_rfl) (by kernel_rfl) (by kernel_rfl) rfl (fun _ => by kernel_rfl) ?_
        refine Xg.any_each [19] (by kernel_rfl) rfl ⟨?_, trivial⟩
        refine Xg.comes_act rfl (by kernel_rfl) (by kernel_rfl) (Xg.opx_storen 6 (off := 0) 0 [Value.string (St tt), iv (B.getD (327 : Nat) (0 : Int)), iv k'.mp, iv (IntKind.i64.wrap ((2 : Int) * (2 : Int) ^ min (B.getD (328 : Nat) (0 : Int)).toNat IntKind.i64.bits)), iv (xx1.snd.getD q9 (0 : Int)), Value.bool k'.bt] (by kernel_rfl) rfl (by kernel_rfl) (by kernel_rfl) rfl (by kernel_rfl) (Nat.le_of_ble_eq_true (by kernel_rfl)) ?_)
        refine Xg.acts (Xg.owes_skip (by kernel_rfl) (Xg.owes_skip (by kernel_rfl) (Xg.owes_skip (by kernel_rfl) (Xg.owes_skip (by kernel_rfl) Xg.owes_nil)))) ?_
        refine Xg.any_nil (by kernel_rfl) ?_
        refine Xg.at_seq ?_
        refine Xg.at_seq ?_
        refine Xg.at_region ?_
        refine Xg.ops_op (by kernel_rfl) (Xg.opx_pure ((pv rb 0)) rfl (fun _ => by kernel_rfl) ?_)
        refine Xg.ops_op (by kernel_rfl) (Xg.opx_load (b := rb) (off := ((0 : Nat))) 5 (iv k'.mp) rfl (by kernel_rfl) (by kernel_rfl) (by kernel_rfl) ?_)
        refine Xg.ops_op (by kernel_rfl) (Xg.opx_pure (.bool (decide ((k'.mp : Int) = ((2 : Int))))) rfl (fun _ => by kernel_rfl) ?_)
        refine Xg.ops_nil ?_
        refine Xg.at_false (t := decide ((k'.mp = (2 : Int)))) (by kernel_rfl) (decide_eq_false (by omega)) ?_
        refine Xg.at_skip ?_
        refine Xg.at_seq ?_
        refine Xg.at_region ?_
        refine Xg.ops_op (by kernel_rfl) (Xg.opx_loadn (off := 0) 6 0 [Value.string (St tt), iv (B.getD (327 : Nat) (0 : Int)), iv k'.mp, iv (IntKind.i64.wrap ((2 : Int) * (2 : Int) ^ min (B.getD (328 : Nat) (0 : Int)).toNat IntKind.i64.bits)), iv (xx1.snd.getD q9 (0 : Int)), Value.bool k'.bt] (by kernel_rfl) rfl (by kernel_rfl) rfl (Xg.cells_at (by kernel_rfl)) (by kernel_rfl) ?_)
        refine Xg.ops_op (by kernel_rfl) (Xg.opx_storen 6 (off := 0) 6 [Value.string (St tt), iv (B.getD (327 : Nat) (0 : Int)), iv k'.mp, iv (IntKind.i64.wrap ((2 : Int) * (2 : Int) ^ min (B.getD (328 : Nat) (0 : Int)).toNat IntKind.i64.bits)), iv (xx1.snd.getD q9 (0 : Int)), Value.bool k'.bt] (by kernel_rfl) rfl (by kernel_rfl) (by kernel_rfl) rfl (by kernel_rfl) (Nat.le_of_ble_eq_true (by kernel_rfl)) ?_)
        refine Xg.ops_op (by kernel_rfl) (Xg.opx_pure ((iv 0)) rfl (fun _ => by kernel_rfl) ?_)
        refine Xg.ops_nil ?_
        refine Xg.at_ret_feed (v := (Value.tuple #[Value.agg #[Value.string (St tt), iv (B.getD (327 : Nat) (0 : Int)), iv k'.mp, iv (IntKind.i64.wrap ((2 : Int) * (2 : Int) ^ min (B.getD (328 : Nat) (0 : Int)).toNat IntKind.i64.bits)), iv (xx1.snd.getD q9 (0 : Int)), Value.bool k'.bt], iv 0])) [(Addr.mk xb1 (0 : Nat) none), (Addr.mk xb1 (1 : Nat) none), (Addr.mk xb1 (2 : Nat) none), (Addr.mk xb1 (3 : Nat) none), (Addr.mk xb1 (4 : Nat) none), (Addr.mk xb1 (5 : Nat) none)] [Value.string (St tt), iv (B.getD (327 : Nat) (0 : Int)), iv k'.mp, iv (IntKind.i64.wrap ((2 : Int) * (2 : Int) ^ min (B.getD (328 : Nat) (0 : Int)).toNat IntKind.i64.bits)), iv (xx1.snd.getD q9 (0 : Int)), Value.bool k'.bt] [2] [A] Go.Proofs.Tryd.func9 (by kernel_rfl) (Xg.cells_cons (b := xb1) (off := 0) 6 rfl (by kernel_rfl) (Xg.cells_cons (b := xb1) (off := 1) 6 rfl (by kernel_rfl) (Xg.cells_cons (b := xb1) (off := 2) 6 rfl (by kernel_rfl) (Xg.cells_cons (b := xb1) (off := 3) 6 rfl (by kernel_rfl) (Xg.cells_cons (b := xb1) (off := 4) 6 rfl (by kernel_rfl) (Xg.cells_cons (b := xb1) (off := 5) 6 rfl (by kernel_rfl) Xg.cells_nil)))))) (by kernel_rfl) (by kernel_rfl) ?_
        rotate_left
        rotate_left
        rotate_left
        refine Xg.any_pure ((Value.agg #[Value.string (St tt), iv (B.getD (327 : Nat) (0 : Int)), iv k'.mp, iv (IntKind.i64.wrap ((2 : Int) * (2 : Int) ^ min (B.getD (328 : Nat) (0 : Int)).toNat IntKind.i64.bits)), iv (xx1.snd.getD q9 (0 : Int)), Value.bool k'.bt])) 17 (by kernel_rfl) rfl (by kernel_rfl) (by kernel_rfl) (by kernel_rfl) (by kernel_rfl) rfl (fun _ => by kernel_rfl) ?_
        refine Xg.any_each [18] (by kernel_rfl) rfl ⟨?_, trivial⟩
        refine Xg.comes_act rfl (by kernel_rfl) (by kernel_rfl) (Xg.opx_new 6 [Value.string (ByteArray.mk #[]), iv 0, iv 0, iv 0, iv 0, Value.bool false] (by kernel_rfl) (by kernel_rfl) fun xb2 => ?_)
        refine Xg.acts (Xg.owes_rd 2 hR (by kernel_rfl) (Xg.owes_rd 2 hR (by kernel_rfl) (Xg.owes_cell 5 rfl (by kernel_rfl) (Xg.owes_cell 5 rfl (by kernel_rfl) Xg.owes_nil)))) ?_
        refine Xg.any_each [19] (by kernel_rfl) rfl ⟨?_, trivial⟩
        refine Xg.comes_act rfl (by kernel_rfl) (by kernel_rfl) (Xg.opx_storen 6 (off := 0) 0 [Value.string (St tt), iv (B.getD (327 : Nat) (0 : Int)), iv k'.mp, iv (IntKind.i64.wrap ((2 : Int) * (2 : Int) ^ min (B.getD (328 : Nat) (0 : Int)).toNat IntKind.i64.bits)), iv (xx1.snd.getD q9 (0 : Int)), Value.bool k'.bt] (by kernel_rfl) rfl (by kernel_rfl) (by kernel_rfl) rfl (by kernel_rfl) (Nat.le_of_ble_eq_true (by kernel_rfl)) ?_)
        refine Xg.acts (Xg.owes_skip (by kernel_rfl) (Xg.owes_skip (by kernel_rfl) (Xg.owes_skip (by kernel_rfl) (Xg.owes_skip (by kernel_rfl) Xg.owes_nil)))) ?_
        refine Xg.any_nil (by kernel_rfl) ?_
        refine Xg.at_seq ?_
        refine Xg.at_seq ?_
        refine Xg.at_region ?_
        refine Xg.ops_op (by kernel_rfl) (Xg.opx_pure ((pv rb 0)) rfl (fun _ => by kernel_rfl) ?_)
        refine Xg.ops_op (by kernel_rfl) (Xg.opx_load (b := rb) (off := ((0 : Nat))) 5 (iv k'.mp) rfl (by kernel_rfl) (by kernel_rfl) (by kernel_rfl) ?_)
        refine Xg.ops_op (by kernel_rfl) (Xg.opx_pure (.bool (decide ((k'.mp : Int) = ((2 : Int))))) rfl (fun _ => by kernel_rfl) ?_)
        refine Xg.ops_nil ?_
        refine Xg.at_false (t := decide ((k'.mp = (2 : Int)))) (by kernel_rfl) (decide_eq_false (by omega)) ?_
        refine Xg.at_skip ?_
        refine Xg.at_seq ?_
        refine Xg.at_region ?_
        refine Xg.ops_op (by kernel_rfl) (Xg.opx_loadn (off := 0) 6 0 [Value.string (St tt), iv (B.getD (327 : Nat) (0 : Int)), iv k'.mp, iv (IntKind.i64.wrap ((2 : Int) * (2 : Int) ^ min (B.getD (328 : Nat) (0 : Int)).toNat IntKind.i64.bits)), iv (xx1.snd.getD q9 (0 : Int)), Value.bool k'.bt] (by kernel_rfl) rfl (by kernel_rfl) rfl (Xg.cells_at (by kernel_rfl)) (by kernel_rfl) ?_)
        refine Xg.ops_op (by kernel_rfl) (Xg.opx_storen 6 (off := 0) 6 [Value.string (St tt), iv (B.getD (327 : Nat) (0 : Int)), iv k'.mp, iv (IntKind.i64.wrap ((2 : Int) * (2 : Int) ^ min (B.getD (328 : Nat) (0 : Int)).toNat IntKind.i64.bits)), iv (xx1.snd.getD q9 (0 : Int)), Value.bool k'.bt] (by kernel_rfl) rfl (by kernel_rfl) (by kernel_rfl) rfl (by kernel_rfl) (Nat.le_of_ble_eq_true (by kernel_rfl)) ?_)
        refine Xg.ops_op (by kernel_rfl) (Xg.opx_pure ((iv 0)) rfl (fun _ => by kernel_rfl) ?_)
        refine Xg.ops_nil ?_
        refine Xg.at_ret_feed (v := (Value.tuple #[Value.agg #[Value.string (St tt), iv (B.getD (327 : Nat) (0 : Int)), iv k'.mp, iv (IntKind.i64.wrap ((2 : Int) * (2 : Int) ^ min (B.getD (328 : Nat) (0 : Int)).toNat IntKind.i64.bits)), iv (xx1.snd.getD q9 (0 : Int)), Value.bool k'.bt], iv 0])) [(Addr.mk xb1 (0 : Nat) none), (Addr.mk xb1 (1 : Nat) none), (Addr.mk xb1 (2 : Nat) none), (Addr.mk xb1 (3 : Nat) none), (Addr.mk xb1 (4 : Nat) none), (Addr.mk xb1 (5 : Nat) none)] [Value.string (St tt), iv (B.getD (327 : Nat) (0 : Int)), iv k'.mp, iv (IntKind.i64.wrap ((2 : Int) * (2 : Int) ^ min (B.getD (328 : Nat) (0 : Int)).toNat IntKind.i64.bits)), iv (xx1.snd.getD q9 (0 : Int)), Value.bool k'.bt] [2] [A] Go.Proofs.Tryd.func9 (by kernel_rfl) (Xg.cells_cons (b := xb1) (off := 0) 6 rfl (by kernel_rfl) (Xg.cells_cons (b := xb1) (off := 1) 6 rfl (by kernel_rfl) (Xg.cells_cons (b := xb1) (off := 2) 6 rfl (by kernel_rfl) (Xg.cells_cons (b := xb1) (off := 3) 6 rfl (by kernel_rfl) (Xg.cells_cons (b := xb1) (off := 4) 6 rfl (by kernel_rfl) (Xg.cells_cons (b := xb1) (off := 5) 6 rfl (by kernel_rfl) Xg.cells_nil)))))) (by kernel_rfl) (by kernel_rfl) ?_
        rotate_left
        refine Xg.any_each [14] (by kernel_rfl) rfl ⟨?_, trivial⟩
        refine Xg.comes_act rfl (by kernel_rfl) (by kernel_rfl) (Xg.opx_rd 1 (iv (xx1.snd.getD q9 (0 : Int))) rfl (Xg.reads_own (E := ((3 : TypeId))) (sz := ((1 : Nat))) (n := ((6 : Nat))) (c := ((6 : Nat))) (a := xx1.fst) (vs := (List.map (Value.int IntKind.i64) xx1.snd))) (by kernel_rfl) (Xg.run_load_rd (off0 := (offA xx1.fst + q9)) q9 (by kernel_rfl) (by omega) (Xg.get_ints (by omega)) (by kernel_rfl)) ?_)
        refine Xg.acts (Xg.owes_rd 2 hR (by kernel_rfl) (Xg.owes_rd 2 hR (by kernel_rfl) (Xg.owes_cell 5 rfl (by kernel_rfl) (Xg.owes_cell 5 rfl (by kernel_rfl) Xg.owes_nil)))) ?_
        refine Xg.any_pure ((Value.agg #[Value.string (St tt), iv (B.getD (327 : Nat) (0 : Int)), iv k'.mp, iv (IntKind.i64.wrap ((2 : Int) * (2 : Int) ^ min (B.getD (328 : Nat) (0 : Int)).toNat IntKind.i64.bits)), iv (xx1.snd.getD q9 (0 : Int)), Value.bool k'.bt])) 17 (by kernel_rfl) rfl (by kernel_rfl) (by kernel_rfl) (by kernel_rfl) (by kernel_rfl) rfl (fun _ => by kernel_rfl) ?_
        refine Xg.any_each [19] (by kernel_rfl) rfl ⟨?_, trivial⟩
        refine Xg.comes_act rfl (by kernel_rfl) (by kernel_rfl) (Xg.opx_storen 6 (off := 0) 0 [Value.string (St tt), iv (B.getD (327 : Nat) (0 : Int)), iv k'.mp, iv (IntKind.i64.wrap ((2 : Int) * (2 : Int) ^ min (B.getD (328 : Nat) (0 : Int)).toNat IntKind.i64.bits)), iv (xx1.snd.getD q9 (0 : Int)), Value.bool k'.bt] (by kernel_rfl) rfl (by kernel_rfl) (by kernel_rfl) rfl (by kernel_rfl) (Nat.le_of_ble_eq_true (by kernel_rfl)) ?_)
        refine Xg.acts (Xg.owes_skip (by kernel_rfl) (Xg.owes_skip (by kernel_rfl) (Xg.owes_skip (by kernel_rfl) (Xg.owes_skip (by kernel_rfl) Xg.owes_nil)))) ?_
        refine Xg.any_nil (by kernel_rfl) ?_
        refine Xg.at_seq ?_
        refine Xg.at_seq ?_
        refine Xg.at_region ?_
        refine Xg.ops_op (by kernel_rfl) (Xg.opx_pure ((pv rb 0)) rfl (fun _ => by kernel_rfl) ?_)
        refine Xg.ops_op (by kernel_rfl) (Xg.opx_load (b := rb) (off := ((0 : Nat))) 5 (iv k'.mp) rfl (by kernel_rfl) (by kernel_rfl) (by kernel_rfl) ?_)
        refine Xg.ops_op (by kernel_rfl) (Xg.opx_pure (.bool (decide ((k'.mp : Int) = ((2 : Int))))) rfl (fun _ => by kernel_rfl) ?_)
        refine Xg.ops_nil ?_
        refine Xg.at_false (t := decide ((k'.mp = (2 : Int)))) (by kernel_rfl) (decide_eq_false (by omega)) ?_
        refine Xg.at_skip ?_
        refine Xg.at_seq ?_
        refine Xg.at_region ?_
        refine Xg.ops_op (by kernel_rfl) (Xg.opx_loadn (off := 0) 6 0 [Value.string (St tt), iv (B.getD (327 : Nat) (0 : Int)), iv k'.mp, iv (IntKind.i64.wrap ((2 : Int) * (2 : Int) ^ min (B.getD (328 : Nat) (0 : Int)).toNat IntKind.i64.bits)), iv (xx1.snd.getD q9 (0 : Int)), Value.bool k'.bt] (by kernel_rfl) rfl (by kernel_rfl) rfl (Xg.cells_at (by kernel_rfl)) (by kernel_rfl) ?_)
        refine Xg.ops_op (by kernel_rfl) (Xg.opx_storen 6 (off := 0) 6 [Value.string (St tt), iv (B.getD (327 : Nat) (0 : Int)), iv k'.mp, iv (IntKind.i64.wrap ((2 : Int) * (2 : Int) ^ min (B.getD (328 : Nat) (0 : Int)).toNat IntKind.i64.bits)), iv (xx1.snd.getD q9 (0 : Int)), Value.bool k'.bt] (by kernel_rfl) rfl (by kernel_rfl) (by kernel_rfl) rfl (by kernel_rfl) (Nat.le_of_ble_eq_true (by kernel_rfl)) ?_)
        refine Xg.ops_op (by kernel_rfl) (Xg.opx_pure ((iv 0)) rfl (fun _ => by kernel_rfl) ?_)
        refine Xg.ops_nil ?_
        refine Xg.at_ret_feed (v := (Value.tuple #[Value.agg #[Value.string (St tt), iv (B.getD (327 : Nat) (0 : Int)), iv k'.mp, iv (IntKind.i64.wrap ((2 : Int) * (2 : Int) ^ min (B.getD (328 : Nat) (0 : Int)).toNat IntKind.i64.bits)), iv (xx1.snd.getD q9 (0 : Int)), Value.bool k'.bt], iv 0])) [(Addr.mk xb1 (0 : Nat) none), (Addr.mk xb1 (1 : Nat) none), (Addr.mk xb1 (2 : Nat) none), (Addr.mk xb1 (3 : Nat) none), (Addr.mk xb1 (4 : Nat) none), (Addr.mk xb1 (5 : Nat) none)] [Value.string (St tt), iv (B.getD (327 : Nat) (0 : Int)), iv k'.mp, iv (IntKind.i64.wrap ((2 : Int) * (2 : Int) ^ min (B.getD (328 : Nat) (0 : Int)).toNat IntKind.i64.bits)), iv (xx1.snd.getD q9 (0 : Int)), Value.bool k'.bt] [2] [A] Go.Proofs.Tryd.func9 (by kernel_rfl) (Xg.cells_cons (b := xb1) (off := 0) 6 rfl (by kernel_rfl) (Xg.cells_cons (b := xb1) (off := 1) 6 rfl (by kernel_rfl) (Xg.cells_cons (b := xb1) (off := 2) 6 rfl (by kernel_rfl) (Xg.cells_cons (b := xb1) (off := 3) 6 rfl (by kernel_rfl) (Xg.cells_cons (b := xb1) (off := 4) 6 rfl (by kernel_rfl) (Xg.cells_cons (b := xb1) (off := 5) 6 rfl (by kernel_rfl) Xg.cells_nil)))))) (by kernel_rfl) (by kernel_rfl) ?_)
      all_goals (refine ⟨?_, rfl⟩; rw [hs1, xh1_1, hrl]; rfl)
end Go.Proofs.YthjhkondmobaeaaDoor
