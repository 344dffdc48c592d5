/- The block package's functions: contracts over separation lists (part 1). -/
import Derived.Test.YtinmonlhfnaiiaaProg
import Derived.Test.YtinmonlhfnaiiaaLib4
import Derived.WalkKit
import Derived.ProofKit
import Derived.WalkSpells
import Derived.Outline
import Derived.KernelRfl
namespace Go.Proofs.Ytinmonlhfnaiiaa
open Go.Sl Go.RowKit
set_option linter.unusedVariables false
set_option linter.unusedSimpArgs false

def u8s (l : List Int) : List Value := l.map (Value.int .u8)
theorem u8s_len (l : List Int) : (u8s l).length = l.length := by simp [u8s]
theorem u8s_one (l : List Int) : ∀ u ∈ u8s l, u.oneCell' = true := by
  intro u hu; simp [u8s] at hu; obtain ⟨x, _, rfl⟩ := hu; rfl
theorem u8s_app (a b : List Int) : u8s (a ++ b) = u8s a ++ u8s b := by simp [u8s]
theorem u8s_take (n : Nat) (a : List Int) : u8s (a.take n) = (u8s a).take n := by simp [u8s, List.map_take]
theorem u8s_drop (n : Nat) (a : List Int) : u8s (a.drop n) = (u8s a).drop n := by simp [u8s, List.map_drop]
def i64s (l : List Int) : List Value := l.map (Value.int .i64)
theorem ret_int {k : IntKind} {a b : Int} (h : a = b) : Ending.returned (.int k a) = .returned (.int k b) := by rw [h]

theorem El3 : El Try.prog 3 (.int .i64 0) 1 8 := El.mk' (by kernel_rfl) rfl
theorem El4 : El Try.prog 4 (.bool false) 1 1 := El.mk' (by kernel_rfl) rfl
theorem El5 : El Try.prog 5 (.int .u8 0) 1 1 := El.mk' (by kernel_rfl) rfl
theorem El31 : El Try.prog 31 (.slice none 0 0) 1 24 := El.mk' (by kernel_rfl) rfl
theorem El62 : El Try.prog 62 (.slice none 0 0) 1 24 := El.mk' (by kernel_rfl) rfl
theorem El64 : El Try.prog 64 (.agg #[.slice none 0 0, .slice none 0 0, .bool false, .int .i64 0]) 4 64 := El.mk' (by kernel_rfl) rfl
theorem El67 : El Try.prog 67 (.agg #[.int .i64 0, .slice none 0 0]) 2 32 := El.mk' (by kernel_rfl) rfl

/-! ### the abstract store -/
structure St where
  n : Nat
  safe : List Int
  pend : List (Nat × List Int)
  limited : Bool
  left : Int

structure St.Wf (σ : St) : Prop where
  n1 : 1 ≤ σ.n
  n2 : σ.n ≤ 4096
  len : σ.safe.length = σ.n * 512
  pend : ∀ x ∈ σ.pend, x.1 < σ.n ∧ x.2.length = 512
  many : σ.pend.length ≤ 1000000000
  left : -1000000000 ≤ σ.left ∧ σ.left ≤ 9223372036854775807

def wcells : List (Nat × List Int) → List Value → List Value
  | x :: l, d :: ds => .int .i64 (x.1 : Int) :: d :: wcells l ds
  | _, _ => []

theorem wcells_len : ∀ (l : List (Nat × List Int)) (ds : List Value), ds.length = l.length → (wcells l ds).length = l.length * 2
  | [], [], _ => rfl
  | x :: l, d :: ds, h => by
    have := wcells_len l ds (by simpa using h)
    simp [wcells, this]; omega
  | [], _ :: _, h => by simp at h
  | _ :: _, [], h => by simp at h

theorem wcells_app : ∀ (l : List (Nat × List Int)) (ds : List Value) (x : Nat × List Int) (d : Value), ds.length = l.length → wcells (l ++ [x]) (ds ++ [d]) = wcells l ds ++ [.int .i64 (x.1 : Int), d]
  | [], [], _, _, _ => rfl
  | y :: l, e :: ds, x, d, h => by
    have := wcells_app l ds x d (by simpa using h)
    simp [wcells, this]
  | [], _ :: _, _, _, h => by simp at h
  | _ :: _, [], _, _, h => by simp at h

theorem wcells_get : ∀ (l : List (Nat × List Int)) (ds : List Value) (i : Nat) (x : Nat × List Int) (d : Value), l[i]? = some x → ds[i]? = some d →
    (wcells l ds)[2 * i]? = some (.int .i64 (x.1 : Int)) ∧ (wcells l ds)[2 * i + 1]? = some d
  | [], _, _, _, _, h, _ => by simp at h
  | _ :: _, [], _, _, _, _, h => by simp at h
  | y :: l, e :: ds, 0, x, d, h1, h2 => by simp at h1 h2; subst h1; subst h2; exact ⟨rfl, rfl⟩
  | y :: l, e :: ds, i + 1, x, d, h1, h2 => by
    have := wcells_get l ds i x d (by simpa using h1) (by simpa using h2)
    rw [show 2 * (i + 1) = 2 * i + 1 + 1 from by omega]
    exact this

abbrev byS (s : Value) (l : List Int) : HP := ownS 5 1 s l.length (u8s l)
def PendP (pv : Value) (ds : List Value) (l : List (Nat × List Int)) : HP :=
  seps (ownS 67 2 pv l.length (wcells l ds) :: List.zipWith (fun d x => byS d x.2) ds l)

def StoreP (p : Nat) (σ : St) : HP := fun m => σ.Wf ∧ ∃ sv pv ds, (ds.length = σ.pend.length ∧ (pv = .slice none 0 0 → σ.pend = [])) ∧
  seps [row p 64 [sv, pv, .bool σ.limited, .int .i64 σ.left], byS sv σ.safe, PendP pv ds σ.pend] m

theorem mem_rd {g w : World} {L : List HP} {E sz n : Nat} {s : Value} {vs : List Value} (h : SL g L w) (hm : ownS E sz s n vs ∈ L) : Rd w sz s n vs := by
  obtain ⟨s1, t, e⟩ := List.append_of_mem hm
  subst e
  exact (h.perm (List.perm_middle)).own_rd

theorem pend_rd {g w : World} {L : List HP} {pv : Value} {ds : List Value} {l : List (Nat × List Int)} (h : SL g L w) (hm : PendP pv ds l ∈ L) (hl : ds.length = l.length) :
    Rd w 2 pv l.length (wcells l ds) ∧ ∀ (i : Nat) (x : Nat × List Int) (d : Value), l[i]? = some x → ds[i]? = some d → Rd w 1 d x.2.length (u8s x.2) := by
  obtain ⟨s1, t, e⟩ := List.append_of_mem hm
  subst e
  have h2 := SL.flat.1 (h.perm (List.perm_middle))
  refine ⟨mem_rd h2 (.head _), fun i x d hx hd => mem_rd (E := 5) h2 ?_⟩
  simp only [List.cons_append, List.mem_cons, List.mem_append]
  right; left
  have : (List.zipWith (fun d x => byS d x.2) ds l)[i]? = some (byS d x.2) := by simp [List.getElem?_zipWith, hx, hd]
  exact List.mem_of_getElem? this

/-- A store, opened. -/
theorem st_open {g w : World} {L : List HP} {p : Nat} {σ : St} (h : SL g (StoreP p σ :: L) w) :
    σ.Wf ∧ ∃ sv pv ds, ds.length = σ.pend.length ∧ (pv = .slice none 0 0 → σ.pend = []) ∧ SL g (row p 64 [sv, pv, .bool σ.limited, .int .i64 σ.left] :: byS sv σ.safe :: PendP pv ds σ.pend :: L) w := by
  obtain ⟨hw, h⟩ := SL.and.1 h
  obtain ⟨sv, h⟩ := SL.ex.1 h
  obtain ⟨pv, h⟩ := SL.ex.1 h
  obtain ⟨ds, h⟩ := SL.ex.1 h
  obtain ⟨⟨h1, h2⟩, h⟩ := SL.and.1 h
  exact ⟨hw, sv, pv, ds, h1, h2, SL.flat.1 h⟩

theorem st_shut {g w : World} {L : List HP} {p : Nat} {σ : St} {sv pv : Value} {ds : List Value} (hw : σ.Wf) (h1 : ds.length = σ.pend.length) (h2 : pv = .slice none 0 0 → σ.pend = [])
    (h : SL g (row p 64 [sv, pv, .bool σ.limited, .int .i64 σ.left] :: byS sv σ.safe :: PendP pv ds σ.pend :: L) w) : SL g (StoreP p σ :: L) w :=
  SL.and.2 ⟨hw, SL.ex.2 ⟨sv, SL.ex.2 ⟨pv, SL.ex.2 ⟨ds, SL.and.2 ⟨⟨h1, h2⟩, SL.flat.2 h⟩⟩⟩⟩⟩

theorem st_wf {g w : World} {L : List HP} {p : Nat} {σ : St} (h : SL g (StoreP p σ :: L) w) : σ.Wf := (SL.and.1 h).1

theorem rd_shape {w : World} {sz n : Nat} {s : Value} {vs : List Value} (h : Rd w sz s n vs) : ∃ a c, s = .slice a n c := by
  obtain ⟨a, c, e, _⟩ := h; exact ⟨a, c, e⟩

/-! ### Sectors, is, Pending -/
theorem sectors_c {g w : World} {L : List HP} (p : Nat) (σ : St) (hS : SL g (StoreP p σ :: L) w) :
    Calls Try.prog 27 #[.pointer (some ⟨p, 0, none⟩)] w fun e w' => e = .returned (.int .i64 (σ.n : Int)) ∧ w = w' := by
  obtain ⟨hw, sv, pv, ds, h1, h2, hS⟩ := st_open hS
  have hc := hS.cell (b := p) (.head _) 0
  simp only [List.getElem?_cons_zero] at hc
  obtain ⟨a, c, e⟩ := rd_shape ((hS.pull 1).own_rd)
  subst e
  obtain ⟨n, hn, hb⟩ : ∃ n, n = σ.safe.length ∧ n ≤ 2097152 := ⟨_, rfl, by have := hw.len; have := hw.n2; omega⟩
  rw [← hn] at hc
  have Hn := Lib.hid hn; clear hn hS h2
  go_enter Try.func27, Try.ntmps27
  go_wp2
  go_ret
  exact ⟨ret_int (by have := Hn.out; have := hw.len; omega), rfl⟩

theorem pending_c {g w : World} {L : List HP} (p : Nat) (σ : St) (hS : SL g (StoreP p σ :: L) w) :
    Calls Try.prog 21 #[.pointer (some ⟨p, 0, none⟩)] w fun e w' => e = .returned (.int .i64 (σ.pend.length : Int)) ∧ w = w' := by
  obtain ⟨hw, sv, pv, ds, h1, h2, hS⟩ := st_open hS
  have hc := hS.cell (b := p) (.head _) 1
  simp only [List.getElem?_cons_zero, List.getElem?_cons_succ] at hc
  obtain ⟨a, c, e⟩ := rd_shape (pend_rd hS (.tail _ (.tail _ (.head _))) h1).1
  subst e
  obtain ⟨n, hn⟩ : ∃ n, n = σ.pend.length := ⟨_, rfl⟩
  rw [← hn] at hc
  have Hn := Lib.hid hn; clear hn hS h2 h1
  go_enter Try.func21, Try.ntmps21
  go_wp2
  go_ret
  exact ⟨ret_int (by rw [Hn.out]), rfl⟩

theorem is_c {g w : World} {L : List HP} (p : Nat) (σ : St) (n : Int) (b : Bool) (hb : b = decide (0 ≤ n ∧ n < σ.n)) (hS : SL g (StoreP p σ :: L) w) :
    Calls Try.prog 28 #[.pointer (some ⟨p, 0, none⟩), .int .i64 n] w fun e w' => e = .returned (.bool b) ∧ w = w' := by
  obtain ⟨N, hN⟩ : ∃ N, N = σ.n := ⟨_, rfl⟩
  have hc := sectors_c p σ hS
  rw [← hN] at hc hb
  have HC := Lib.hid hc
  have Hb := Lib.hid hb
  clear hc hS hN hb
  by_cases h0 : 0 ≤ n
  · by_cases h1 : n < N
    all_goals
      go_enter Try.func28, Try.ntmps28
      go_wp2_with (go_at_call 27; refine HC.out.mono ?_; rintro e w' ⟨rfl, rfl⟩)
      go_ret
      refine ⟨congrArg (fun z => Ending.returned (.bool z)) ?_, rfl⟩
      rw [Hb.out]
      first | (symm; rw [decide_eq_true_eq]; omega) | (rw [decide_eq_decide]; omega)
  · go_enter Try.func28, Try.ntmps28
    go_wp2
    go_ret
    refine ⟨congrArg (fun z => Ending.returned (.bool z)) ?_, rfl⟩
    rw [Hb.out]
    symm; rw [decide_eq_false_iff_not]; omega

/-! ### slices.Clone, Clip, sector -/
theorem clone_c {g w : World} {L : List HP} (s : Value) (n : Nat) (vs : List Value) (hS : SL g L w) (hR : ∀ w', SL g L w' → Rd w' 1 s n vs) (h1 : ∀ u ∈ vs, u.oneCell' = true) (hn : n ≤ 100000000) :
    Calls Try.prog 29 #[s] w fun e w' => ∃ s', e = .returned s' ∧ SL g (ownS 5 1 s' n vs :: L) w' ∧ (n ≠ 0 → s' ≠ .slice none 0 0) := by
  obtain ⟨a, c, rfl, hl, hc⟩ := hR w hS
  have heq := fun w' => Lib.run_eql_slice_nil (P := Try.prog) w' 31 5 a n c 0 0 Try.underlying31
  cases a with
  | none =>
    have hv : vs = [] := by
      cases vs with
      | nil => rfl
      | cons v vs => obtain ⟨ad, h, _⟩ := hc 0 v rfl; cases h
    have hn0 : n = 0 := by subst hv; simpa using hl.symm
    have Hfin := Lib.hid (show SL g (ownS 5 1 (.slice none 0 0) n vs :: L) w by subst hv; subst hn0; exact hS.own_nil _ _)
    have Hn0 := Lib.hid hn0
    clear hR hc hl hS hv hn0
    go_enter Try.func29, Try.ntmps29
    go_wp2
    go_ret
    exact ⟨_, rfl, Hfin.out, fun h => absurd Hn0.out h⟩
  | some ad =>
    clear hc hl
    have h0 : 0 + n ≤ maxLen := by unfold maxLen; omega
    have h2 : (0 + n) * 1 ≤ 140737488355328 := by omega
    have HR := Lib.hid hR
    have H1 := Lib.hid h1
    clear hR h1
    go_enter Try.func29, Try.ntmps29
    go_wp2_with (first | (refine wpList_plain rfl (fun K hK => ?_); refine w_bs El5 Try.underlying31 hS (by decide) rfl rfl rfl ?_; clear hS; intro b w hS l' hl; simp only [List.set_cons_succ, List.set_cons_zero] at hl; subst hl; try simp only [ev, nth, Option.getD_some, Option.getD_none] at hS; refine hK _ _ ?_; clear hK K) | (refine wpList_plain rfl (fun K hK => ?_); refine w_append El5 Try.underlying31 (SL.own_some (n := 0) (vs := []) (cap := 0) (sp := []) hS rfl (Nat.le_refl _) (by unfold maxLen; omega) rfl) 0 rfl rfl rfl (HR.out _ hS.tail) H1.out h0 h2 ?_; clear hS; intro s' w hS hnil l' hl; simp only [List.set_cons_succ, List.set_cons_zero] at hl; subst hl; refine hK _ _ ?_; clear hK K))
    go_ret
    exact ⟨_, rfl, by simpa using hS, fun h e => h (hnil.1 e).2⟩

end Go.Proofs.Ytinmonlhfnaiiaa
