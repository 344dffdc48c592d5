import Derived.Test.YtijjficnhpokdaaMAll14
import Derived.Laws.StructEq
/- Structs of integers, compared with themselves. Over any program. -/
namespace Go.Xg
open Go Go.Sl
set_option linter.unusedVariables false
set_option linter.unusedSimpArgs false

def intTyE (P : Program) (t : TypeId) : Bool := match P.underlying t with
  | some (.int _) => true
  | _ => false
def aggInts (P : Program) (t : TypeId) (xs : Array Value) : Bool := (P.fieldsOf t).toList.all fun f => intTyE P f.type && (match xs[f.offset]? with
  | some (.int _ _) => true
  | _ => false)
end Go.Xg

/- The sched law's reference: its round and slots. -/
namespace Go.Proofs.Ytijjficnhpokdaa
open Go.Sl Go.Xg
set_option linter.unusedVariables false
set_option linter.unusedSimpArgs false
set_option linter.unusedSectionVars false
set_option linter.unnecessarySimpa false
set_option maxHeartbeats 4000000
set_option maxRecDepth 100000

abbrev RR (a : Option Addr) (c : Nat) (r : List (Int × Bool)) : HP := recsO 82 2 mc a c r
abbrev RH (p : Nat) (ra : Option Addr) (rn rc : Nat) (sa : Option Addr) (sn sc : Nat) : HP := row p 80 [.slice ra rn rc, .slice sa sn sc]
def RefP (p : Nat) (r : List (Int × Bool)) (s : List Int) : HP := fun m => ∃ (ra : Option Addr) (rc : Nat) (sa : Option Addr) (sc : Nat), seps [RH p ra r.length rc sa s.length sc, RR ra rc r, SP sa sc s] m
theorem ref_open {p : Nat} {r : List (Int × Bool)} {s : List Int} {g w : World} {L : List HP} (h : SL g (RefP p r s :: L) w) : ∃ ra rc sa sc, SL g (RH p ra r.length rc sa s.length sc :: RR ra rc r :: SP sa sc s :: L) w := by
  obtain ⟨ra, h⟩ := SL.ex.1 h
  obtain ⟨rc, h⟩ := SL.ex.1 h
  obtain ⟨sa, h⟩ := SL.ex.1 h
  obtain ⟨sc, h⟩ := SL.ex.1 h
  exact ⟨ra, rc, sa, sc, SL.flat.1 h⟩
theorem ref_shut {p : Nat} {r : List (Int × Bool)} {s : List Int} {g w : World} {L : List HP} {ra rc sa sc} (h : SL g (RH p ra r.length rc sa s.length sc :: RR ra rc r :: SP sa sc s :: L) w) : SL g (RefP p r s :: L) w :=
  SL.ex.2 ⟨ra, SL.ex.2 ⟨rc, SL.ex.2 ⟨sa, SL.ex.2 ⟨sc, SL.flat.2 h⟩⟩⟩⟩
/-- A contract over the reference's rows, wherever they lie. -/
theorem refE {f : FuncId} {args : List Value} {p : Nat} {r r' : List (Int × Bool)} {s s' : List Int} {β : Type} {q : β → Prop} {V : β → Value} {QS : β → List HP}
    (h : ∀ ra rc sa sc, Does Try.prog f args [RH p ra r.length rc sa s.length sc, RR ra rc r, SP sa sc s] (RetE (fun x : (Option Addr × Nat × Option Addr × Nat) × β => q x.2) (fun x => V x.2) (fun x => [RH p x.1.1 r'.length x.1.2.1 x.1.2.2.1 s'.length x.1.2.2.2, RR x.1.1 x.1.2.1 r', SP x.1.2.2.1 x.1.2.2.2 s'] ++ QS x.2))) :
    Does Try.prog f args [RefP p r s] (RetE q V (fun y => RefP p r' s' :: QS y)) := by
  constructor
  intro g F w hS cs
  obtain ⟨ra, rc, sa, sc, hS⟩ := ref_open hS
  obtain ⟨e, w', fr, ⟨v, ps, ⟨x, hx, rfl, rfl⟩, rfl, h3⟩, h4⟩ := (h ra rc sa sc).run g F w hS cs
  exact ⟨_, w', fr, ⟨_, _, ⟨x.2, hx, rfl, rfl⟩, rfl, ref_shut h3⟩, h4⟩
theorem refR {f : FuncId} {args : List Value} {p : Nat} {r r' : List (Int × Bool)} {s s' : List Int} {v : Value}
    (h : ∀ ra rc sa sc, Does Try.prog f args [RH p ra r.length rc sa s.length sc, RR ra rc r, SP sa sc s] (RetE (fun x : Option Addr × Nat × Option Addr × Nat => True) (fun x => v) (fun x => [RH p x.1 r'.length x.2.1 x.2.2.1 s'.length x.2.2.2, RR x.1 x.2.1 r', SP x.2.2.1 x.2.2.2 s']))) :
    Does Try.prog f args [RefP p r s] (Ret v [RefP p r' s']) := by
  constructor
  intro g F w hS cs
  obtain ⟨ra, rc, sa, sc, hS⟩ := ref_open hS
  obtain ⟨e, w', fr, ⟨v, ps, ⟨x, hx, rfl, rfl⟩, rfl, h3⟩, h4⟩ := (h ra rc sa sc).run g F w hS cs
  exact ⟨_, w', fr, ⟨_, _, ⟨rfl, rfl⟩, rfl, ref_shut h3⟩, h4⟩

theorem rfind_d (p : Nat) (ra : Option Addr) (rc : Nat) (sv : Value) (r : List (Int × Bool)) (id : Int) (hl : r.length ≤ 100000) : Does Try.prog 42 [.pointer (some ⟨p, 0, none⟩), .int .i64 id] [row p 80 [.slice ra r.length rc, sv], RR ra rc r]
    (Ret (.int .i64 (at_ id r)) [row p 80 [.slice ra r.length rc, sv], RR ra rc r]) := by
  (focus
    refine Xg.spec_of Go.Proofs.Try.func42 rfl Go.Proofs.Try.ntmps42 fun g F => ?_)
  (focus
    refine Xg.at_seq ?_
    refine Xg.at_region ?_
    refine Xg.ops_op (by kernel_rfl) (Xg.opx_pure ((iv 0)) rfl (fun _ => by kernel_rfl) ?_)
    refine Xg.ops_nil ?_
    refine Xg.at_seq ?_
    refine Xg.at_seq ?_
    refine Xg.at_region ?_
    refine Xg.ops_op (by kernel_rfl) (Xg.opx_pure ((iv 0)) rfl (fun _ => by kernel_rfl) ?_)
    refine Xg.ops_nil ?_
    refine Xg.at_block ?_)
  (focus
    refine Xg.at_rounds_inv (α := (Nat) × (Nat → Value)) (fun x => ((fun i => i ≤ r.length ∧ ∀ j, j < i → ((r.getD j default).1 == id) = false) : (Nat) → Prop) x.1) (fun x => ((fun i => r.length - i) : (Nat) → Nat) x.1) (fun x => Xg.headT [pv p 0, iv id, tu, tu, iv 0, iv 0, tu, tu, tu, tu, tu, tu, tu, tu, tu, tu, tu, tu, tu, tu, tu, tu, tu, tu, tu, tu] [4, 6, 7, 8, 9, 10, 11, 12, 13, 14, 15, 16, 17, 18, 19, 20, 21, 22, 23, 24, 25] (((fun i => [(5, .int .i64 (i : Nat))]) : (Nat) → List (Nat × Go.Value)) x.1) x.2) (fun x => ((fun i => [row p 80 [.slice ra r.length rc, sv], RR ra rc r]) : (Nat) → List Go.Sl.HP) x.1) ((0), fun j9 => ([pv p 0, iv id, tu, tu, iv 0, iv 0, tu, tu, tu, tu, tu, tu, tu, tu, tu, tu, tu, tu, tu, tu, tu, tu, tu, tu, tu, tu] : List Value).getD j9 undef) (by kernel_rfl) (by kernel_rfl) ?_ ?_)
  · exact ⟨Nat.zero_le _, fun j hj => absurd hj (Nat.not_lt_zero j)⟩
  rintro ⟨i, J⟩ hi ih
  obtain ⟨hi, hno⟩ := hi
  dsimp only at hi hno
  (focus
    refine Xg.At.same (T' := [pv p 0, iv id, tu, tu, J 4, iv (↑i : Int), J 6, J 7, J 8, J 9, J 10, J 11, J 12, J 13, J 14, J 15, J 16, J 17, J 18, J 19, J 20, J 21, J 22, J 23, J 24, J 25]) (L' := [row p (80 : TypeId) [Value.slice ra r.length rc, sv], RR ra rc r]) (by kernel_rfl) rfl ?_)
  by_cases hlt : i < r.length
  · by_cases hid : (r.getD i default).1 = id
    · clear ih
      have e : at_ id r = i := fidx_at default r i hlt hno (by rw [hid]; simp)
      (focus
        refine Xg.at_seq ?_
        refine Xg.at_seq ?_
        refine Xg.at_region ?_
        refine Xg.ops_op (by kernel_rfl) (Xg.opx_pure ((iv (↑i : Int))) rfl (fun _ => by kernel_rfl) ?_)
        refine Xg.ops_op (by kernel_rfl) (Xg.opx_pure ((pv p 0)) rfl (fun _ => by kernel_rfl) ?_)
        refine Xg.ops_op (by kernel_rfl) (Xg.opx_pure ((pv p 0)) rfl (fun _ => by kernel_rfl) ?_)
        refine Xg.ops_op (by kernel_rfl) (Xg.opx_pure ((pv p 0)) rfl (fun _ => by kernel_rfl) ?_)
        refine Xg.ops_op (by kernel_rfl) (Xg.opx_load (b := p) (off := ((0 : Nat))) 0 (Value.slice ra r.length rc) rfl (by kernel_rfl) (by kernel_rfl) (by kernel_rfl) ?_)
        refine Xg.ops_op (by kernel_rfl) (Xg.opx_pure ((iv (↑r.length : Int))) rfl (fun _ => by kernel_rfl) ?_)
        refine Xg.ops_op (by kernel_rfl) (Xg.opx_pure (.bool (decide ((((↑i : Int)) : Int) < ((↑r.length : Int))))) rfl (fun _ => by kernel_rfl) ?_)
        refine Xg.ops_nil ?_
        refine Xg.at_true (t := decide (((↑i : Int) < (↑r.length : Int)))) (by kernel_rfl) (decide_eq_true (by omega)) ?_
        refine Xg.at_skip ?_
        refine Xg.at_seq ?_
        refine Xg.at_block ?_
        refine Xg.at_seq ?_
        refine Xg.at_region ?_
        refine Xg.ops_op (by kernel_rfl) (Xg.opx_pure ((pv p 0)) rfl (fun _ => by kernel_rfl) ?_)
        refine Xg.ops_op (by kernel_rfl) (Xg.opx_pure ((pv p 0)) rfl (fun _ => by kernel_rfl) ?_)
        refine Xg.ops_op (by kernel_rfl) (Xg.opx_pure ((pv p 0)) rfl (fun _ => by kernel_rfl) ?_)
        refine Xg.ops_op (by kernel_rfl) (Xg.opx_load (b := p) (off := ((0 : Nat))) 0 (Value.slice ra r.length rc) rfl (by kernel_rfl) (by kernel_rfl) (by kernel_rfl) ?_)
        refine Xg.ops_op (by kernel_rfl) (Xg.opx_pure ((iv (↑i : Int))) rfl (fun _ => by kernel_rfl) ?_)
        refine Xg.ops_op (by kernel_rfl) (Xg.opx_ix_own (elem := 82) (kd := .i64) (e := ((↑i : Int))) 1 2 i (i * (2 : Nat)) rfl (by kernel_rfl) (by kernel_rfl) (by kernel_rfl) (by kernel_rfl) rfl (by omega) (by omega) ?_)
        refine Xg.ops_op (by kernel_rfl) (Xg.opx_pure ((Value.pointer (some (Addr.mk (blk ra) (i * (2 : Nat)) none)))) rfl (fun _ => by kernel_rfl) ?_)
        refine Xg.ops_op (by kernel_rfl) (Xg.opx_load_own (a := ra) (off := (i * (2 : Nat))) 1 (iv (r.getD i default).fst) rfl (by kernel_rfl) (Xg.get_recs' (wd := 2) (fun _ => rfl) default i 0 (by omega) (by decide) (by omega) (by kernel_rfl)) (by kernel_rfl) ?_)
        refine Xg.ops_op (by kernel_rfl) (Xg.opx_pure ((iv id)) rfl (fun _ => by kernel_rfl) ?_)
        refine Xg.ops_op (by kernel_rfl) (Xg.opx_pure (.bool (decide ((((r.getD i default).fst) : Int) = id))) rfl (fun _ => by kernel_rfl) ?_)
        refine Xg.ops_nil ?_
        refine Xg.at_true (t := decide (((r.getD i default).fst = id))) (by kernel_rfl) (decide_eq_true (by omega)) ?_
        refine Xg.at_seq ?_
        refine Xg.at_region ?_
        refine Xg.ops_op (by kernel_rfl) (Xg.opx_pure ((iv (↑i : Int))) rfl (fun _ => by kernel_rfl) ?_)
        refine Xg.ops_op (by kernel_rfl) (Xg.opx_pure ((iv (↑i : Int))) rfl (fun _ => by kernel_rfl) ?_)
        refine Xg.ops_nil ?_
        refine Xg.at_ret_ps (v := (iv (↑i : Int))) [0, 1] [row p (80 : TypeId) [Value.slice ra r.length rc, sv], RR ra rc r] Go.Proofs.Try.func42 (fun _ => by kernel_rfl) (by kernel_rfl) (by kernel_rfl) ?_)
      rw [e]
      exact ⟨rfl, rfl⟩
    · (focus
        refine Xg.at_seq ?_
        refine Xg.at_seq ?_
        refine Xg.at_region ?_
        refine Xg.ops_op (by kernel_rfl) (Xg.opx_pure ((iv (↑i : Int))) rfl (fun _ => by kernel_rfl) ?_)
        refine Xg.ops_op (by kernel_rfl) (Xg.opx_pure ((pv p 0)) rfl (fun _ => by kernel_rfl) ?_)
        refine Xg.ops_op (by kernel_rfl) (Xg.opx_pure ((pv p 0)) rfl (fun _ => by kernel_rfl) ?_)
        refine Xg.ops_op (by kernel_rfl) (Xg.opx_pure ((pv p 0)) rfl (fun _ => by kernel_rfl) ?_)
        refine Xg.ops_op (by kernel_rfl) (Xg.opx_load (b := p) (off := ((0 : Nat))) 0 (Value.slice ra r.length rc) rfl (by kernel_rfl) (by kernel_rfl) (by kernel_rfl) ?_)
        refine Xg.ops_op (by kernel_rfl) (Xg.opx_pure ((iv (↑r.length : Int))) rfl (fun _ => by kernel_rfl) ?_)
        refine Xg.ops_op (by kernel_rfl) (Xg.opx_pure (.bool (decide ((((↑i : Int)) : Int) < ((↑r.length : Int))))) rfl (fun _ => by kernel_rfl) ?_)
        refine Xg.ops_nil ?_
        refine Xg.at_true (t := decide (((↑i : Int) < (↑r.length : Int)))) (by kernel_rfl) (decide_eq_true (by omega)) ?_
        refine Xg.at_skip ?_
        refine Xg.at_seq ?_
        refine Xg.at_block ?_
        refine Xg.at_seq ?_
        refine Xg.at_region ?_
        refine Xg.ops_op (by kernel_rfl) (Xg.opx_pure ((pv p 0)) rfl (fun _ => by kernel_rfl) ?_)
        refine Xg.ops_op (by kernel_rfl) (Xg.opx_pure ((pv p 0)) rfl (fun _ => by kernel_rfl) ?_)
        refine Xg.ops_op (by kernel_rfl) (Xg.opx_pure ((pv p 0)) rfl (fun _ => by kernel_rfl) ?_)
        refine Xg.ops_op (by kernel_rfl) (Xg.opx_load (b := p) (off := ((0 : Nat))) 0 (Value.slice ra r.length rc) rfl (by kernel_rfl) (by kernel_rfl) (by kernel_rfl) ?_)
        refine Xg.ops_op (by kernel_rfl) (Xg.opx_pure ((iv (↑i : Int))) rfl (fun _ => by kernel_rfl) ?_)
        refine Xg.ops_op (by kernel_rfl) (Xg.opx_ix_own (elem := 82) (kd := .i64) (e := ((↑i : Int))) 1 2 i (i * (2 : Nat)) rfl (by kernel_rfl) (by kernel_rfl) (by kernel_rfl) (by kernel_rfl) rfl (by omega) (by omega) ?_)
        refine Xg.ops_op (by kernel_rfl) (Xg.opx_pure ((Value.pointer (some (Addr.mk (blk ra) (i * (2 : Nat)) none)))) rfl (fun _ => by kernel_rfl) ?_)
        refine Xg.ops_op (by kernel_rfl) (Xg.opx_load_own (a := ra) (off := (i * (2 : Nat))) 1 (iv (r.getD i default).fst) rfl (by kernel_rfl) (Xg.get_recs' (wd := 2) (fun _ => rfl) default i 0 (by omega) (by decide) (by omega) (by kernel_rfl)) (by kernel_rfl) ?_)
        refine Xg.ops_op (by kernel_rfl) (Xg.opx_pure ((iv id)) rfl (fun _ => by kernel_rfl) ?_)
        refine Xg.ops_op (by kernel_rfl) (Xg.opx_pure (.bool (decide ((((r.getD i default).fst) : Int) = id))) rfl (fun _ => by kernel_rfl) ?_)
        refine Xg.ops_nil ?_
        refine Xg.at_false (t := decide (((r.getD i default).fst = id))) (by kernel_rfl) (decide_eq_false (by omega)) ?_
        refine Xg.at_skip ?_
        refine Xg.at_inBlock ?_
        refine Xg.at_region ?_
        refine Xg.ops_op (by kernel_rfl) (Xg.opx_pure ((iv (↑i : Int))) rfl (fun _ => by kernel_rfl) ?_)
        refine Xg.ops_op (by kernel_rfl) (Xg.opx_int .i64 (IntKind.wrap .i64 (((↑i : Int) + (1 : Int)))) rfl (fun _ => by kernel_rfl) (Xg.wrap_i64_in (by omega)) ?_)
        refine Xg.ops_op (by kernel_rfl) (Xg.opx_pure ((iv ((↑i : Int) + (1 : Int)))) rfl (fun _ => by kernel_rfl) ?_)
        refine Xg.ops_nil ?_
        refine Xg.at_inLoop ?_)
      (focus
        refine Xg.at_keep [0, 1] (by kernel_rfl) ?_
        refine Xs.same ?_ (fun J9 => ih (((i + 1)), J9) ?_ ?_) (by kernel_rfl))
      · rfl
      · refine ⟨hlt, fun j hj => ?_⟩
        by_cases e : j = i
        · rw [e]; exact beq_eq_false_iff_ne.2 hid
        · exact hno j (by omega)
      · dsimp only; omega
  · obtain rfl : i = r.length := by omega
    clear ih
    have e : at_ id r = -1 := fidx_end default r hno
    (focus
      refine Xg.at_seq ?_
      refine Xg.at_seq ?_
      refine Xg.at_region ?_
      refine Xg.ops_op (by kernel_rfl) (Xg.opx_pure ((iv (↑r.length : Int))) rfl (fun _ => by kernel_rfl) ?_)
      refine Xg.ops_op (by kernel_rfl) (Xg.opx_pure ((pv p 0)) rfl (fun _ => by kernel_rfl) ?_)
      refine Xg.ops_op (by kernel_rfl) (Xg.opx_pure ((pv p 0)) rfl (fun _ => by kernel_rfl) ?_)
      refine Xg.ops_op (by kernel_rfl) (Xg.opx_pure ((pv p 0)) rfl (fun _ => by kernel_rfl) ?_)
      refine Xg.ops_op (by kernel_rfl) (Xg.opx_load (b := p) (off := ((0 : Nat))) 0 (Value.slice ra r.length rc) rfl (by kernel_rfl) (by kernel_rfl) (by kernel_rfl) ?_)
      refine Xg.ops_op (by kernel_rfl) (Xg.opx_pure ((iv (↑r.length : Int))) rfl (fun _ => by kernel_rfl) ?_)
      refine Xg.ops_op (by kernel_rfl) (Xg.opx_pure (.bool (decide ((((↑r.length : Int)) : Int) < ((↑r.length : Int))))) rfl (fun _ => by kernel_rfl) ?_)
      refine Xg.ops_nil ?_
      refine Xg.at_false (t := decide (((↑r.length : Int) < (↑r.length : Int)))) (by kernel_rfl) (decide_eq_false (by omega)) ?_
      refine Xg.at_exit rfl ?_
      refine Xg.at_seq ?_
      refine Xg.at_region ?_
      refine Xg.ops_op (by kernel_rfl) (Xg.opx_pure ((iv (-1))) rfl (fun _ => by kernel_rfl) ?_)
      refine Xg.ops_nil ?_
      refine Xg.at_ret_ps (v := (iv (-1))) [0, 1] [row p (80 : TypeId) [Value.slice ra r.length rc, sv], RR ra rc r] Go.Proofs.Try.func42 (fun _ => by kernel_rfl) (by kernel_rfl) (by kernel_rfl) ?_)
    rw [e]
    exact ⟨rfl, rfl⟩
theorem er1 {α : Type} (d : α) (l : List α) (k i : Nat) (hi : i < l.length) : (l.take (i + 1)).eraseIdx k = if i = k then (l.take i).eraseIdx k else (l.take i).eraseIdx k ++ [l.getD i d] := by
  have hl : (l.take i).length = i := by rw [List.length_take]; omega
  have e0 : l.take (i + 1) = l.take i ++ [l.getD i d] := by
    rw [List.take_add_one, List.getElem?_eq_getElem hi, List.getD_eq_getElem?_getD, List.getElem?_eq_getElem hi]; rfl
  rw [e0]
  by_cases h : k < i
  · rw [if_neg (by omega), List.eraseIdx_append_of_lt_length (by omega)]
  · rw [List.eraseIdx_append_of_length_le (by omega), List.eraseIdx_of_length_le (l := l.take i) (by omega), hl]
    by_cases e : i = k
    · rw [if_pos e, e, Nat.sub_self]; simp
    · rw [if_neg e, List.eraseIdx_of_length_le (by simp; omega)]
theorem at_nil_rr {P : Program} {f : FuncId} {g : World} {F : List HP} {R : Ending → World → Prop} {k : List Item} {T : List Value} {L : List HP} (h : At P f g F R k T (RR none 0 [] :: L)) : At P f g F R k T L := at_nil_own _ 2 h
theorem rwithout_d (p : Nat) (ra : Option Addr) (rc : Nat) (sv : Value) (r : List (Int × Bool)) (k : Nat) (hk : k < r.length) (hl : r.length ≤ 100000) : Does Try.prog 43 [.pointer (some ⟨p, 0, none⟩), .int .i64 (k : Nat)] [row p 80 [.slice ra r.length rc, sv], RR ra rc r]
    (RetE (fun x : Option Addr × Nat => True) (fun x => .slice x.1 (r.eraseIdx k).length x.2) (fun x => [row p 80 [.slice ra r.length rc, sv], RR ra rc r, RR x.1 x.2 (r.eraseIdx k)])) := by
  (focus
    refine Xg.spec_of Go.Proofs.Try.func43 rfl Go.Proofs.Try.ntmps43 fun g F => ?_)
  refine at_nil_rr ?_
  (focus
    refine Xg.at_seq ?_
    refine Xg.at_region ?_
    refine Xg.ops_op (by kernel_rfl) (Xg.opx_pure ((Value.slice none (0 : Nat) (0 : Nat))) rfl (fun _ => by kernel_rfl) ?_)
    refine Xg.ops_nil ?_
    refine Xg.at_seq ?_
    refine Xg.at_region ?_
    refine Xg.ops_op (by kernel_rfl) (Xg.opx_pure ((Value.slice none (0 : Nat) (0 : Nat))) rfl (fun _ => by kernel_rfl) ?_)
    refine Xg.ops_nil ?_
    refine Xg.at_seq ?_
    refine Xg.at_seq ?_
    refine Xg.at_region ?_
    refine Xg.ops_op (by kernel_rfl) (Xg.opx_pure ((iv 0)) rfl (fun _ => by kernel_rfl) ?_)
    refine Xg.ops_nil ?_
    refine Xg.at_block ?_)
  (focus
    refine Xg.at_rounds_inv (α := (Nat × Option Addr × Nat × List (Int × Bool)) × (Nat → Value)) (fun x => ((fun y => y.1 ≤ r.length ∧ y.2.2.2 = (r.take y.1).eraseIdx k) : (Nat × Option Addr × Nat × List (Int × Bool)) → Prop) x.1) (fun x => ((fun y => r.length - y.1) : (Nat × Option Addr × Nat × List (Int × Bool)) → Nat) x.1) (fun x => Xg.headT [pv p 0, iv (↑k : Int), tu, tu, Value.slice none (0 : Nat) (0 : Nat), Value.slice none (0 : Nat) (0 : Nat), iv 0, tu, tu, tu, tu, tu, tu, tu, tu, tu, tu, tu, tu, tu, tu, tu, tu, tu, tu, tu, tu, tu, tu, tu] [7, 8, 9, 10, 11, 12, 13, 14, 15, 16, 17, 18, 19, 20, 21, 22, 23, 24, 25, 26, 27, 28] (((fun y => [(5, .slice y.2.1 y.2.2.2.length y.2.2.1), (6, .int .i64 (y.1 : Nat))]) : (Nat × Option Addr × Nat × List (Int × Bool)) → List (Nat × Go.Value)) x.1) x.2) (fun x => ((fun y => [RR y.2.1 y.2.2.1 y.2.2.2, row p 80 [.slice ra r.length rc, sv], RR ra rc r]) : (Nat × Option Addr × Nat × List (Int × Bool)) → List Go.Sl.HP) x.1) (((0, none, 0, [])), fun j9 => ([pv p 0, iv (↑k : Int), tu, tu, Value.slice none (0 : Nat) (0 : Nat), Value.slice none (0 : Nat) (0 : Nat), iv 0, tu, tu, tu, tu, tu, tu, tu, tu, tu, tu, tu, tu, tu, tu, tu, tu, tu, tu, tu, tu, tu, tu, tu] : List Value).getD j9 undef) (by kernel_rfl) (by kernel_rfl) ?_ ?_)
  · refine ⟨Nat.zero_le _, ?_⟩
    simp
  rintro ⟨⟨i, oa, oc, o⟩, J⟩ hi ih
  obtain ⟨hi, ho⟩ := hi
  dsimp only at hi ho
  (focus
    refine Xg.At.same (T' := [pv p 0, iv (↑k : Int), tu, tu, Value.slice none (0 : Nat) (0 : Nat), Value.slice oa o.length oc, iv (↑i : Int), J 7, J 8, J 9, J 10, J 11, J 12, J 13, J 14, J 15, J 16, J 17, J 18, J 19, J 20, J 21, J 22, J 23, J 24, J 25, J 26, J 27, J 28, tu]) (L' := [RR ((i, oa, oc, o), J).fst.snd.fst ((i, oa, oc, o), J).fst.snd.snd.fst ((i, oa, oc, o), J).fst.snd.snd.snd, row p (80 : TypeId) [Value.slice ra r.length rc, sv], RR ra rc r]) (by kernel_rfl) rfl ?_)
  by_cases hlt : i < r.length
  · have e1 := er1 default r k i hlt
    rw [← ho] at e1
    have hol : o.length ≤ i := by rw [ho]; exact Nat.le_trans (List.length_eraseIdx_le _ _) (by rw [List.length_take]; omega)
    by_cases hik : i = k
    · rw [if_pos hik] at e1
      (focus
        refine Xg.at_seq ?_
        refine Xg.at_seq ?_
        refine Xg.at_region ?_
        refine Xg.ops_op (by kernel_rfl) (Xg.opx_pure ((iv (↑i : Int))) rfl (fun _ => by kernel_rfl) ?_)
        refine Xg.ops_op (by kernel_rfl) (Xg.opx_pure ((pv p 0)) rfl (fun _ => by kernel_rfl) ?_)
        refine Xg.ops_op (by kernel_rfl) (Xg.opx_pure ((pv p 0)) rfl (fun _ => by kernel_rfl) ?_)
        refine Xg.ops_op (by kernel_rfl) (Xg.opx_pure ((pv p 0)) rfl (fun _ => by kernel_rfl) ?_)
        refine Xg.ops_op (by kernel_rfl) (Xg.opx_load (b := p) (off := ((0 : Nat))) 1 (Value.slice ra r.length rc) rfl (by kernel_rfl) (by kernel_rfl) (by kernel_rfl) ?_)
        refine Xg.ops_op (by kernel_rfl) (Xg.opx_pure ((iv (↑r.length : Int))) rfl (fun _ => by kernel_rfl) ?_)
        refine Xg.ops_op (by kernel_rfl) (Xg.opx_pure (.bool (decide ((((↑i : Int)) : Int) < ((↑r.length : Int))))) rfl (fun _ => by kernel_rfl) ?_)
        refine Xg.ops_nil ?_
        refine Xg.at_true (t := decide (((↑i : Int) < (↑r.length : Int)))) (by kernel_rfl) (decide_eq_true (by omega)) ?_
        refine Xg.at_skip ?_
        refine Xg.at_seq ?_
        refine Xg.at_block ?_
        refine Xg.at_seq ?_
        refine Xg.at_region ?_
        refine Xg.ops_op (by kernel_rfl) (Xg.opx_pure ((iv (↑i : Int))) rfl (fun _ => by kernel_rfl) ?_)
        refine Xg.ops_op (by kernel_rfl) (Xg.opx_pure ((iv (↑k : Int))) rfl (fun _ => by kernel_rfl) ?_)
        refine Xg.ops_op (by kernel_rfl) (Xg.opx_pure (.bool (!decide ((((↑i : Int)) : Int) = ((↑k : Int))))) rfl (fun _ => by kernel_rfl) ?_)
        refine Xg.ops_nil ?_
        refine Xg.at_false (t := !decide (((↑i : Int) = (↑k : Int)))) (by kernel_rfl) (by rw [decide_eq_true (by omega)]; rfl) ?_
        refine Xg.at_skip ?_
        refine Xg.at_inBlock ?_
        refine Xg.at_region ?_
        refine Xg.ops_op (by kernel_rfl) (Xg.opx_pure ((iv (↑i : Int))) rfl (fun _ => by kernel_rfl) ?_)
        refine Xg.ops_op (by kernel_rfl) (Xg.opx_int .i64 (IntKind.wrap .i64 (((↑i : Int) + (1 : Int)))) rfl (fun _ => by kernel_rfl) (Xg.wrap_i64_in (by omega)) ?_)
        refine Xg.ops_op (by kernel_rfl) (Xg.opx_pure ((iv ((↑i : Int) + (1 : Int)))) rfl (fun _ => by kernel_rfl) ?_)
        refine Xg.ops_nil ?_
        refine Xg.at_inLoop ?_)
      (focus
        refine Xg.at_keep [0, 1, 2] (by kernel_rfl) ?_
        refine Xs.same ?_ (fun J9 => ih (((i + 1, oa, oc, o)), J9) ?_ ?_) (by kernel_rfl))
      · rfl
      · exact ⟨hlt, e1.symm⟩
      · dsimp only; omega
    · rw [if_neg hik] at e1
      (focus
        refine Xg.at_seq ?_
        refine Xg.at_seq ?_
        refine Xg.at_region ?_
        refine Xg.ops_op (by kernel_rfl) (Xg.opx_pure ((iv (↑i : Int))) rfl (fun _ => by kernel_rfl) ?_)
        refine Xg.ops_op (by kernel_rfl) (Xg.opx_pure ((pv p 0)) rfl (fun _ => by kernel_rfl) ?_)
        refine Xg.ops_op (by kernel_rfl) (Xg.opx_pure ((pv p 0)) rfl (fun _ => by kernel_rfl) ?_)
        refine Xg.ops_op (by kernel_rfl) (Xg.opx_pure ((pv p 0)) rfl (fun _ => by kernel_rfl) ?_)
        refine Xg.ops_op (by kernel_rfl) (Xg.opx_load (b := p) (off := ((0 : Nat))) 1 (Value.slice ra r.length rc) rfl (by kernel_rfl) (by kernel_rfl) (by kernel_rfl) ?_)
        refine Xg.ops_op (by kernel_rfl) (Xg.opx_pure ((iv (↑r.length : Int))) rfl (fun _ => by kernel_rfl) ?_)
        refine Xg.ops_op (by kernel_rfl) (Xg.opx_pure (.bool (decide ((((↑i : Int)) : Int) < ((↑r.length : Int))))) rfl (fun _ => by kernel_rfl) ?_)
        refine Xg.ops_nil ?_
        refine Xg.at_true (t := decide (((↑i : Int) < (↑r.length : Int)))) (by kernel_rfl) (decide_eq_true (by omega)) ?_
        refine Xg.at_skip ?_
        refine Xg.at_seq ?_
        refine Xg.at_block ?_
        refine Xg.at_seq ?_
        refine Xg.at_region ?_
        refine Xg.ops_op (by kernel_rfl) (Xg.opx_pure ((iv (↑i : Int))) rfl (fun _ => by kernel_rfl) ?_)
        refine Xg.ops_op (by kernel_rfl) (Xg.opx_pure ((iv (↑k : Int))) rfl (fun _ => by kernel_rfl) ?_)
        refine Xg.ops_op (by kernel_rfl) (Xg.opx_pure (.bool (!decide ((((↑i : Int)) : Int) = ((↑k : Int))))) rfl (fun _ => by kernel_rfl) ?_)
        refine Xg.ops_nil ?_
        refine Xg.at_true (t := !decide (((↑i : Int) = (↑k : Int)))) (by kernel_rfl) (by rw [decide_eq_false (by omega)]; rfl) ?_
        refine Xg.at_region ?_
        refine Xg.ops_op (by kernel_rfl) (Xg.opx_pure ((Value.slice oa o.length oc)) rfl (fun _ => by kernel_rfl) ?_)
        refine Xg.ops_op (by kernel_rfl) (Xg.opx_pure ((pv p 0)) rfl (fun _ => by kernel_rfl) ?_)
        refine Xg.ops_op (by kernel_rfl) (Xg.opx_pure ((pv p 0)) rfl (fun _ => by kernel_rfl) ?_)
        refine Xg.ops_op (by kernel_rfl) (Xg.opx_pure ((pv p 0)) rfl (fun _ => by kernel_rfl) ?_)
        refine Xg.ops_op (by kernel_rfl) (Xg.opx_load (b := p) (off := ((0 : Nat))) 1 (Value.slice ra r.length rc) rfl (by kernel_rfl) (by kernel_rfl) (by kernel_rfl) ?_)
        refine Xg.ops_op (by kernel_rfl) (Xg.opx_pure ((iv (↑i : Int))) rfl (fun _ => by kernel_rfl) ?_)
        refine Xg.ops_op (by kernel_rfl) (Xg.opx_ix_own (elem := 82) (kd := .i64) (e := ((↑i : Int))) 2 2 i (i * (2 : Nat)) rfl (by kernel_rfl) (by kernel_rfl) (by kernel_rfl) (by kernel_rfl) rfl (by omega) (by omega) ?_)
        refine Xg.ops_op (by kernel_rfl) (Xg.opx_loadn_own (a := ra) (off := (i * (2 : Nat))) 2 2 [iv (r.getD i default).fst, Value.bool (r.getD i default).snd] (by kernel_rfl) rfl (by kernel_rfl) rfl (Xg.recs_at' (wd := 2) (fun _ => rfl) default i (by omega) (by omega) (by kernel_rfl)) (by kernel_rfl) ?_)
        refine Xg.ops_op (by kernel_rfl) (Xg.opx_bs (elem := 82) 2 [Value.agg #[iv (r.getD i default).fst, Value.bool (r.getD i default).snd]] [iv (r.getD i default).fst, Value.bool (r.getD i default).snd] (by kernel_rfl) (by kernel_rfl) (by decide) rfl (by kernel_rfl) (by kernel_rfl) (by kernel_rfl) (by kernel_rfl) fun xb1 => ?_)
        refine Xg.ops_op (by kernel_rfl) (Xg.opx_append_recs (elem := 82) (yv := (Value.slice (some (Addr.mk xb1 (0 : Nat) none)) (1 : Nat) (1 : Nat))) (l := (((i, oa, oc, o), J).fst.snd.snd.snd)) 1 2 64 (((r.getD i default).fst, (r.getD i default).snd)) rfl (by kernel_rfl) (by kernel_rfl) (by kernel_rfl) (by kernel_rfl) (fun _ hS => Xg.row_rd hS 0 rfl (by kernel_rfl)) (by kernel_rfl) (by first | omega | (simp only [List.length_nil]; omega) | (simp; done) | (simp; omega)) (by first | omega | (simp only [List.length_nil]; omega) | (simp; done) | (simp; omega)) fun xa1 xc1 => ?_)
        have xl1 : (((((i, oa, oc, o), J).fst.snd.snd.snd) : (List (Int × Bool))) ++ ([(((r.getD i default).fst, (r.getD i default).snd))] : (List (Int × Bool)))).length = ((((i, oa, oc, o), J).fst.snd.snd.snd) : (List (Int × Bool))).length + 1 := by simp
        refine Xg.ops_op (by kernel_rfl) (Xg.opx_pure ((Value.slice xa1 (o ++ [((r.getD i default).fst, (r.getD i default).snd)]).length xc1)) rfl (fun _ => by kernel_rfl) ?_)
        refine Xg.ops_nil ?_
        refine Xg.at_inBlock ?_
        refine Xg.at_region ?_
        refine Xg.ops_op (by kernel_rfl) (Xg.opx_pure ((iv (↑i : Int))) rfl (fun _ => by kernel_rfl) ?_)
        refine Xg.ops_op (by kernel_rfl) (Xg.opx_int .i64 (IntKind.wrap .i64 (((↑i : Int) + (1 : Int)))) rfl (fun _ => by kernel_rfl) (Xg.wrap_i64_in (by omega)) ?_)
        refine Xg.ops_op (by kernel_rfl) (Xg.opx_pure ((iv ((↑i : Int) + (1 : Int)))) rfl (fun _ => by kernel_rfl) ?_)
        refine Xg.ops_nil ?_
        refine Xg.at_inLoop ?_)
      (focus
        refine Xg.at_keep [1, 2, 3] (by kernel_rfl) ?_
        refine Xs.same ?_ (fun J9 => ih (((i + 1, xa1, xc1, o ++ [r.getD i default])), J9) ?_ ?_) (by kernel_rfl))
      · rfl
      · exact ⟨hlt, e1.symm⟩
      · dsimp only; omega
  · obtain rfl : i = r.length := by omega
    clear ih
    rw [List.take_length] at ho
    subst ho
    (focus
      refine Xg.at_seq ?_
      refine Xg.at_seq ?_
      refine Xg.at_region ?_
      refine Xg.ops_op (by kernel_rfl) (Xg.opx_pure ((iv (↑r.length : Int))) rfl (fun _ => by kernel_rfl) ?_)
      refine Xg.ops_op (by kernel_rfl) (Xg.opx_pure ((pv p 0)) rfl (fun _ => by kernel_rfl) ?_)
      refine Xg.ops_op (by kernel_rfl) (Xg.opx_pure ((pv p 0)) rfl (fun _ => by kernel_rfl) ?_)
      refine Xg.ops_op (by kernel_rfl) (Xg.opx_pure ((pv p 0)) rfl (fun _ => by kernel_rfl) ?_)
      refine Xg.ops_op (by kernel_rfl) (Xg.opx_load (b := p) (off := ((0 : Nat))) 1 (Value.slice ra r.length rc) rfl (by kernel_rfl) (by kernel_rfl) (by kernel_rfl) ?_)
      refine Xg.ops_op (by kernel_rfl) (Xg.opx_pure ((iv (↑r.length : Int))) rfl (fun _ => by kernel_rfl) ?_)
      refine Xg.ops_op (by kernel_rfl) (Xg.opx_pure (.bool (decide ((((↑r.length : Int)) : Int) < ((↑r.length : Int))))) rfl (fun _ => by kernel_rfl) ?_)
      refine Xg.ops_nil ?_
      refine Xg.at_false (t := decide (((↑r.length : Int) < (↑r.length : Int)))) (by kernel_rfl) (decide_eq_false (by omega)) ?_
      refine Xg.at_exit rfl ?_
      refine Xg.at_seq ?_
      refine Xg.at_region ?_
      refine Xg.ops_op (by kernel_rfl) (Xg.opx_pure ((Value.slice oa (r.eraseIdx k).length oc)) rfl (fun _ => by kernel_rfl) ?_)
      refine Xg.ops_op (by kernel_rfl) (Xg.opx_pure ((Value.slice oa (r.eraseIdx k).length oc)) rfl (fun _ => by kernel_rfl) ?_)
      refine Xg.ops_nil ?_
      refine Xg.at_ret_ps (v := (Value.slice oa (r.eraseIdx k).length oc)) [1, 2, 0] [row p (80 : TypeId) [Value.slice ra r.length rc, sv], RR ra rc r, RR oa oc (r.eraseIdx k)] Go.Proofs.Try.func43 (fun _ => by kernel_rfl) (by kernel_rfl) (by kernel_rfl) ?_
      refine ⟨((oa, oc)), trivial, by kernel_rfl, by kernel_rfl⟩)
theorem rturns_d (p : Nat) (rv : Value) (sa : Option Addr) (sc : Nat) (s : List Int) (id : Int) (hl : s.length ≤ 100000) : Does Try.prog 44 [.pointer (some ⟨p, 0, none⟩), .int .i64 id] [row p 80 [rv, .slice sa s.length sc], SP sa sc s]
    (Ret (.bool (decide (0 ≤ fidx (fun x => id == x) s))) [row p 80 [rv, .slice sa s.length sc], SP sa sc s]) := by
  (focus
    refine Xg.spec_of Go.Proofs.Try.func44 rfl Go.Proofs.Try.ntmps44 fun g F => ?_)
  (focus
    refine Xg.at_seq ?_
    refine Xg.at_region ?_
    refine Xg.ops_op (by kernel_rfl) (Xg.opx_pure ((Value.bool false)) rfl (fun _ => by kernel_rfl) ?_)
    refine Xg.ops_nil ?_
    refine Xg.at_seq ?_
    refine Xg.at_seq ?_
    refine Xg.at_region ?_
    refine Xg.ops_op (by kernel_rfl) (Xg.opx_pure ((iv 0)) rfl (fun _ => by kernel_rfl) ?_)
    refine Xg.ops_nil ?_
    refine Xg.at_block ?_)
  (focus
    refine Xg.at_rounds_inv (α := (Nat) × (Nat → Value)) (fun x => ((fun i => i ≤ s.length ∧ ∀ j, j < i → (id == s.getD j 0) = false) : (Nat) → Prop) x.1) (fun x => ((fun i => s.length - i) : (Nat) → Nat) x.1) (fun x => Xg.headT [pv p 0, iv id, tu, tu, Value.bool false, iv 0, tu, tu, tu, tu, tu, tu, tu, tu, tu, tu, tu, tu, tu, tu, tu, tu, tu, tu] [4, 6, 7, 8, 9, 10, 11, 12, 13, 14, 15, 16, 17, 18, 19, 20, 21, 22, 23] (((fun i => [(5, .int .i64 (i : Nat))]) : (Nat) → List (Nat × Go.Value)) x.1) x.2) (fun x => ((fun i => [row p 80 [rv, .slice sa s.length sc], SP sa sc s]) : (Nat) → List Go.Sl.HP) x.1) ((0), fun j9 => ([pv p 0, iv id, tu, tu, Value.bool false, iv 0, tu, tu, tu, tu, tu, tu, tu, tu, tu, tu, tu, tu, tu, tu, tu, tu, tu, tu] : List Value).getD j9 undef) (by kernel_rfl) (by kernel_rfl) ?_ ?_)
  · exact ⟨Nat.zero_le _, fun j hj => absurd hj (Nat.not_lt_zero j)⟩
  rintro ⟨i, J⟩ hi ih
  obtain ⟨hi, hno⟩ := hi
  dsimp only at hi hno
  (focus
    refine Xg.At.same (T' := [pv p 0, iv id, tu, tu, J 4, iv (↑i : Int), J 6, J 7, J 8, J 9, J 10, J 11, J 12, J 13, J 14, J 15, J 16, J 17, J 18, J 19, J 20, J 21, J 22, J 23]) (L' := [row p (80 : TypeId) [rv, Value.slice sa s.length sc], SP sa sc s]) (by kernel_rfl) rfl ?_)
  by_cases hlt : i < s.length
  · by_cases hid : s.getD i 0 = id
    · clear ih
      have e : fidx (fun x => id == x) s = i := fidx_at 0 s i hlt hno (by rw [hid]; simp)
      (focus
        refine Xg.at_seq ?_
        refine Xg.at_seq ?_
        refine Xg.at_region ?_
        refine Xg.ops_op (by kernel_rfl) (Xg.opx_pure ((iv (↑i : Int))) rfl (fun _ => by kernel_rfl) ?_)
        refine Xg.ops_op (by kernel_rfl) (Xg.opx_pure ((pv p 0)) rfl (fun _ => by kernel_rfl) ?_)
        refine Xg.ops_op (by kernel_rfl) (Xg.opx_pure ((pv p 0)) rfl (fun _ => by kernel_rfl) ?_)
        refine Xg.ops_op (by kernel_rfl) (Xg.opx_pure ((pv p 1)) rfl (fun _ => by kernel_rfl) ?_)
        refine Xg.ops_op (by kernel_rfl) (Xg.opx_load (b := p) (off := ((1 : Nat))) 0 (Value.slice sa s.length sc) rfl (by kernel_rfl) (by kernel_rfl) (by kernel_rfl) ?_)
        refine Xg.ops_op (by kernel_rfl) (Xg.opx_pure ((iv (↑s.length : Int))) rfl (fun _ => by kernel_rfl) ?_)
        refine Xg.ops_op (by kernel_rfl) (Xg.opx_pure (.bool (decide ((((↑i : Int)) : Int) < ((↑s.length : Int))))) rfl (fun _ => by kernel_rfl) ?_)
        refine Xg.ops_nil ?_
        refine Xg.at_true (t := decide (((↑i : Int) < (↑s.length : Int)))) (by kernel_rfl) (decide_eq_true (by omega)) ?_
        refine Xg.at_skip ?_
        refine Xg.at_seq ?_
        refine Xg.at_block ?_
        refine Xg.at_seq ?_
        refine Xg.at_region ?_
        refine Xg.ops_op (by kernel_rfl) (Xg.opx_pure ((pv p 0)) rfl (fun _ => by kernel_rfl) ?_)
        refine Xg.ops_op (by kernel_rfl) (Xg.opx_pure ((pv p 0)) rfl (fun _ => by kernel_rfl) ?_)
        refine Xg.ops_op (by kernel_rfl) (Xg.opx_pure ((pv p 1)) rfl (fun _ => by kernel_rfl) ?_)
        refine Xg.ops_op (by kernel_rfl) (Xg.opx_load (b := p) (off := ((1 : Nat))) 0 (Value.slice sa s.length sc) rfl (by kernel_rfl) (by kernel_rfl) (by kernel_rfl) ?_)
        refine Xg.ops_op (by kernel_rfl) (Xg.opx_pure ((iv (↑i : Int))) rfl (fun _ => by kernel_rfl) ?_)
        refine Xg.ops_op (by kernel_rfl) (Xg.opx_ix_own (elem := 3) (kd := .i64) (e := ((↑i : Int))) 1 1 i i rfl (by kernel_rfl) (by kernel_rfl) (by kernel_rfl) (by kernel_rfl) rfl (by omega) (by omega) ?_)
        refine Xg.ops_op (by kernel_rfl) (Xg.opx_load_own (a := sa) (off := i) 1 (iv (s.getD i (0 : Int))) rfl (by kernel_rfl) (Xg.get_ints (by omega)) (by kernel_rfl) ?_)
        refine Xg.ops_op (by kernel_rfl) (Xg.opx_pure ((iv id)) rfl (fun _ => by kernel_rfl) ?_)
        refine Xg.ops_op (by kernel_rfl) (Xg.opx_pure (.bool (decide (((s.getD i (0 : Int)) : Int) = id))) rfl (fun _ => by kernel_rfl) ?_)
        refine Xg.ops_nil ?_
        refine Xg.at_true (t := decide ((s.getD i (0 : Int) = id))) (by kernel_rfl) (decide_eq_true (by omega)) ?_
        refine Xg.at_seq ?_
        refine Xg.at_region ?_
        refine Xg.ops_op (by kernel_rfl) (Xg.opx_pure ((Value.bool true)) rfl (fun _ => by kernel_rfl) ?_)
        refine Xg.ops_nil ?_
        refine Xg.at_ret_ps (v := (Value.bool true)) [0, 1] [row p (80 : TypeId) [rv, Value.slice sa s.length sc], SP sa sc s] Go.Proofs.Try.func44 (fun _ => by kernel_rfl) (by kernel_rfl) (by kernel_rfl) ?_)
      rw [e]
      exact ⟨by rw [decide_eq_true (by omega)], rfl⟩
    · (focus
        refine Xg.at_seq ?_
        refine Xg.at_seq ?_
        refine Xg.at_region ?_
        refine Xg.ops_op (by kernel_rfl) (Xg.opx_pure ((iv (↑i : Int))) rfl (fun _ => by kernel_rfl) ?_)
        refine Xg.ops_op (by kernel_rfl) (Xg.opx_pure ((pv p 0)) rfl (fun _ => by kernel_rfl) ?_)
        refine Xg.ops_op (by kernel_rfl) (Xg.opx_pure ((pv p 0)) rfl (fun _ => by kernel_rfl) ?_)
        refine Xg.ops_op (by kernel_rfl) (Xg.opx_pure ((pv p 1)) rfl (fun _ => by kernel_rfl) ?_)
        refine Xg.ops_op (by kernel_rfl) (Xg.opx_load (b := p) (off := ((1 : Nat))) 0 (Value.slice sa s.length sc) rfl (by kernel_rfl) (by kernel_rfl) (by kernel_rfl) ?_)
        refine Xg.ops_op (by kernel_rfl) (Xg.opx_pure ((iv (↑s.length : Int))) rfl (fun _ => by kernel_rfl) ?_)
        refine Xg.ops_op (by kernel_rfl) (Xg.opx_pure (.bool (decide ((((↑i : Int)) : Int) < ((↑s.length : Int))))) rfl (fun _ => by kernel_rfl) ?_)
        refine Xg.ops_nil ?_
        refine Xg.at_true (t := decide (((↑i : Int) < (↑s.length : Int)))) (by kernel_rfl) (decide_eq_true (by omega)) ?_
        refine Xg.at_skip ?_
        refine Xg.at_seq ?_
        refine Xg.at_block ?_
        refine Xg.at_seq ?_
        refine Xg.at_region ?_
        refine Xg.ops_op (by kernel_rfl) (Xg.opx_pure ((pv p 0)) rfl (fun _ => by kernel_rfl) ?_)
        refine Xg.ops_op (by kernel_rfl) (Xg.opx_pure ((pv p 0)) rfl (fun _ => by kernel_rfl) ?_)
        refine Xg.ops_op (by kernel_rfl) (Xg.opx_pure ((pv p 1)) rfl (fun _ => by kernel_rfl) ?_)
        refine Xg.ops_op (by kernel_rfl) (Xg.opx_load (b := p) (off := ((1 : Nat))) 0 (Value.slice sa s.length sc) rfl (by kernel_rfl) (by kernel_rfl) (by kernel_rfl) ?_)
        refine Xg.ops_op (by kernel_rfl) (Xg.opx_pure ((iv (↑i : Int))) rfl (fun _ => by kernel_rfl) ?_)
        refine Xg.ops_op (by kernel_rfl) (Xg.opx_ix_own (elem := 3) (kd := .i64) (e := ((↑i : Int))) 1 1 i i rfl (by kernel_rfl) (by kernel_rfl) (by kernel_rfl) (by kernel_rfl) rfl (by omega) (by omega) ?_)
        refine Xg.ops_op (by kernel_rfl) (Xg.opx_load_own (a := sa) (off := i) 1 (iv (s.getD i (0 : Int))) rfl (by kernel_rfl) (Xg.get_ints (by omega)) (by kernel_rfl) ?_)
        refine Xg.ops_op (by kernel_rfl) (Xg.opx_pure ((iv id)) rfl (fun _ => by kernel_rfl) ?_)
        refine Xg.ops_op (by kernel_rfl) (Xg.opx_pure (.bool (decide (((s.getD i (0 : Int)) : Int) = id))) rfl (fun _ => by kernel_rfl) ?_)
        refine Xg.ops_nil ?_
        refine Xg.at_false (t := decide ((s.getD i (0 : Int) = id))) (by kernel_rfl) (decide_eq_false (by omega)) ?_
        refine Xg.at_skip ?_
        refine Xg.at_inBlock ?_
        refine Xg.at_region ?_
        refine Xg.ops_op (by kernel_rfl) (Xg.opx_pure ((iv (↑i : Int))) rfl (fun _ => by kernel_rfl) ?_)
        refine Xg.ops_op (by kernel_rfl) (Xg.opx_int .i64 (IntKind.wrap .i64 (((↑i : Int) + (1 : Int)))) rfl (fun _ => by kernel_rfl) (Xg.wrap_i64_in (by omega)) ?_)
        refine Xg.ops_op (by kernel_rfl) (Xg.opx_pure ((iv ((↑i : Int) + (1 : Int)))) rfl (fun _ => by kernel_rfl) ?_)
        refine Xg.ops_nil ?_
        refine Xg.at_inLoop ?_)
      (focus
        refine Xg.at_keep [0, 1] (by kernel_rfl) ?_
        refine Xs.same ?_ (fun J9 => ih (((i + 1)), J9) ?_ ?_) (by kernel_rfl))
      · rfl
      · refine ⟨hlt, fun j hj => ?_⟩
        by_cases e : j = i
        · rw [e]; exact beq_eq_false_iff_ne.2 fun e2 => hid e2.symm
        · exact hno j (by omega)
      · dsimp only; omega
  · obtain rfl : i = s.length := by omega
    clear ih
    have e : fidx (fun x => id == x) s = -1 := fidx_end 0 s hno
    (focus
      refine Xg.at_seq ?_
      refine Xg.at_seq ?_
      refine Xg.at_region ?_
      refine Xg.ops_op (by kernel_rfl) (Xg.opx_pure ((iv (↑s.length : Int))) rfl (fun _ => by kernel_rfl) ?_)
      refine Xg.ops_op (by kernel_rfl) (Xg.opx_pure ((pv p 0)) rfl (fun _ => by kernel_rfl) ?_)
      refine Xg.ops_op (by kernel_rfl) (Xg.opx_pure ((pv p 0)) rfl (fun _ => by kernel_rfl) ?_)
      refine Xg.ops_op (by kernel_rfl) (Xg.opx_pure ((pv p 1)) rfl (fun _ => by kernel_rfl) ?_)
      refine Xg.ops_op (by kernel_rfl) (Xg.opx_load (b := p) (off := ((1 : Nat))) 0 (Value.slice sa s.length sc) rfl (by kernel_rfl) (by kernel_rfl) (by kernel_rfl) ?_)
      refine Xg.ops_op (by kernel_rfl) (Xg.opx_pure ((iv (↑s.length : Int))) rfl (fun _ => by kernel_rfl) ?_)
      refine Xg.ops_op (by kernel_rfl) (Xg.opx_pure (.bool (decide ((((↑s.length : Int)) : Int) < ((↑s.length : Int))))) rfl (fun _ => by kernel_rfl) ?_)
      refine Xg.ops_nil ?_
      refine Xg.at_false (t := decide (((↑s.length : Int) < (↑s.length : Int)))) (by kernel_rfl) (decide_eq_false (by omega)) ?_
      refine Xg.at_exit rfl ?_
      refine Xg.at_seq ?_
      refine Xg.at_region ?_
      refine Xg.ops_op (by kernel_rfl) (Xg.opx_pure ((Value.bool false)) rfl (fun _ => by kernel_rfl) ?_)
      refine Xg.ops_nil ?_
      refine Xg.at_ret_ps (v := (Value.bool false)) [0, 1] [row p (80 : TypeId) [rv, Value.slice sa s.length sc], SP sa sc s] Go.Proofs.Try.func44 (fun _ => by kernel_rfl) (by kernel_rfl) (by kernel_rfl) ?_)
    rw [e]
    exact ⟨rfl, rfl⟩
end Go.Proofs.Ytijjficnhpokdaa

/- The sched law's reference: New, Add, Remove, Ready, End, Round. -/
namespace Go.Proofs.Ytijjficnhpokdaa
open Go.Sl Go.Xg
set_option linter.unusedVariables false
set_option linter.unusedSimpArgs false
set_option linter.unusedSectionVars false
set_option linter.unnecessarySimpa false
set_option maxHeartbeats 4000000
set_option maxRecDepth 100000

theorem rnew_d (k : Nat) (h1 : 1 ≤ k) (h8 : k ≤ 8) : Does Try.prog 31 [.int .i64 (k : Nat)] [] (RetE (fun p : Nat => True) (fun p => .tuple #[.pointer (some ⟨p, 0, none⟩), .int .i64 0]) (fun p => [RefP p [] (List.replicate k (-1))])) := by
  have h : Does Try.prog 31 [.int .i64 (k : Nat)] [] (RetE (fun x : Nat × Option Addr × Nat => True) (fun x => .tuple #[.pointer (some ⟨x.1, 0, none⟩), .int .i64 0]) (fun x => [row x.1 80 [.slice none 0 0, .slice x.2.1 (List.replicate k (-1 : Int)).length x.2.2], SP x.2.1 x.2.2 (List.replicate k (-1))])) := by
    (focus
      refine Xg.spec_of Go.Proofs.Try.func31 rfl Go.Proofs.Try.ntmps31 fun g F => ?_)
    refine Xg.at_nil_ints 3 .i64 ?_
    (focus
      refine Xg.at_seq ?_
      refine Xg.at_region ?_
      refine Xg.ops_op (by kernel_rfl) (Xg.opx_pure ((Value.pointer none)) rfl (fun _ => by kernel_rfl) ?_)
      refine Xg.ops_op (by kernel_rfl) (Xg.opx_pure ((iv 0)) rfl (fun _ => by kernel_rfl) ?_)
      refine Xg.ops_nil ?_
      refine Xg.at_seq ?_
      refine Xg.at_seq ?_
      refine Xg.at_region ?_
      refine Xg.ops_op (by kernel_rfl) (Xg.opx_pure ((iv (↑k : Int))) rfl (fun _ => by kernel_rfl) ?_)
      refine Xg.ops_op (by kernel_rfl) (Xg.opx_pure (.bool (decide ((((↑k : Int)) : Int) < ((1 : Int))))) rfl (fun _ => by kernel_rfl) ?_)
      refine Xg.ops_op (by kernel_rfl) (Xg.opx_pure ((Value.bool (decide ((↑k : Int) < (1 : Int))))) rfl (fun _ => by kernel_rfl) ?_)
      refine Xg.ops_flag (j := 8) (c := (decide ((↑k : Int) < (1 : Int)))) (by kernel_rfl) (fun xh1 => absurd (of_decide_eq_true xh1) (by omega)) (fun _ => ?_)
      refine Xg.ops_op (by kernel_rfl) (Xg.opx_pure ((iv (↑k : Int))) rfl (fun _ => by kernel_rfl) ?_)
      refine Xg.ops_op (by kernel_rfl) (Xg.opx_pure (.bool (decide ((((↑k : Int)) : Int) > ((8 : Int))))) rfl (fun _ => by kernel_rfl) ?_)
      refine Xg.ops_flag (j := 10) (c := (decide ((↑k : Int) > (8 : Int)))) (by kernel_rfl) (fun xh1 => absurd (of_decide_eq_true xh1) (by omega)) (fun _ => ?_)
      refine Xg.ops_op (by kernel_rfl) (Xg.opx_pure ((Value.bool false)) rfl (fun _ => by kernel_rfl) ?_)
      refine Xg.ops_nil ?_
      refine Xg.at_false (t := false) (by kernel_rfl) rfl ?_
      refine Xg.at_skip ?_
      refine Xg.at_seq ?_
      refine Xg.at_region ?_
      refine Xg.ops_op (by kernel_rfl) (Xg.opx_pure ((Value.agg #[Value.slice none (0 : Nat) (0 : Nat), Value.slice none (0 : Nat) (0 : Nat)])) rfl (fun _ => by kernel_rfl) ?_)
      refine Xg.ops_op (by kernel_rfl) (Xg.opx_box (v := (Value.agg #[Value.slice none (0 : Nat) (0 : Nat), Value.slice none (0 : Nat) (0 : Nat)])) [Value.slice none (0 : Nat) (0 : Nat), Value.slice none (0 : Nat) (0 : Nat)] (by kernel_rfl) (by kernel_rfl) fun xb1 => ?_)
      refine Xg.ops_op (by kernel_rfl) (Xg.opx_pure ((pv xb1 0)) rfl (fun _ => by kernel_rfl) ?_)
      refine Xg.ops_nil ?_
      refine Xg.at_seq ?_
      refine Xg.at_seq ?_
      refine Xg.at_region ?_
      refine Xg.ops_op (by kernel_rfl) (Xg.opx_pure ((iv 0)) rfl (fun _ => by kernel_rfl) ?_)
      refine Xg.ops_nil ?_
      refine Xg.at_block ?_)
    (focus
      refine Xg.at_rounds_inv (α := (Nat × Option Addr × Nat × List Int) × (Nat → Value)) (fun x => ((fun x => x.1 ≤ k ∧ x.2.2.2 = List.replicate x.1 (-1)) : (Nat × Option Addr × Nat × List Int) → Prop) x.1) (fun x => ((fun x => k - x.1) : (Nat × Option Addr × Nat × List Int) → Nat) x.1) (fun x => Xg.headT [iv (↑k : Int), tu, Value.pointer none, iv 0, pv xb1 0, iv 0, iv (↑k : Int), Value.bool (decide ((↑k : Int) < (1 : Int))), Value.bool false, iv (↑k : Int), Value.bool false, Value.bool false, Value.agg #[Value.slice none (0 : Nat) (0 : Nat), Value.slice none (0 : Nat) (0 : Nat)], pv xb1 0, tu, tu, tu, tu, tu, tu, tu, tu, tu, tu, tu, tu, tu, tu, tu] [14, 15, 16, 17, 18, 19, 20, 21, 22, 23, 24, 25, 26, 27] (((fun x => [(5, .int .i64 (x.1 : Nat))]) : (Nat × Option Addr × Nat × List Int) → List (Nat × Go.Value)) x.1) x.2) (fun x => ((fun x => [row xb1 80 [.slice none 0 0, .slice x.2.1 x.2.2.2.length x.2.2.1], SP x.2.1 x.2.2.1 x.2.2.2]) : (Nat × Option Addr × Nat × List Int) → List Go.Sl.HP) x.1) (((0, none, 0, [])), fun j9 => ([iv (↑k : Int), tu, Value.pointer none, iv 0, pv xb1 0, iv 0, iv (↑k : Int), Value.bool (decide ((↑k : Int) < (1 : Int))), Value.bool false, iv (↑k : Int), Value.bool false, Value.bool false, Value.agg #[Value.slice none (0 : Nat) (0 : Nat), Value.slice none (0 : Nat) (0 : Nat)], pv xb1 0, tu, tu, tu, tu, tu, tu, tu, tu, tu, tu, tu, tu, tu, tu, tu] : List Value).getD j9 undef) (by kernel_rfl) (by kernel_rfl) ?_ ?_)
    · exact ⟨Nat.zero_le _, rfl⟩
    rintro ⟨⟨i, sa, sc, S⟩, J⟩ hi ih
    obtain ⟨hi, hS⟩ := hi
    dsimp only at hi hS
    (focus
      refine Xg.At.same (T' := [iv (↑k : Int), tu, Value.pointer none, iv 0, pv xb1 0, iv (↑i : Int), iv (↑k : Int), Value.bool (decide ((↑k : Int) < (1 : Int))), Value.bool false, iv (↑k : Int), Value.bool false, Value.bool false, Value.agg #[Value.slice none (0 : Nat) (0 : Nat), Value.slice none (0 : Nat) (0 : Nat)], pv xb1 0, J 14, J 15, J 16, J 17, J 18, J 19, J 20, J 21, J 22, J 23, J 24, J 25, J 26, J 27, tu]) (L' := [row xb1 (80 : TypeId) [Value.slice none (0 : Nat) (0 : Nat), Value.slice ((i, sa, sc, S), J).fst.snd.fst ((i, sa, sc, S), J).fst.snd.snd.snd.length ((i, sa, sc, S), J).fst.snd.snd.fst], SP ((i, sa, sc, S), J).fst.snd.fst ((i, sa, sc, S), J).fst.snd.snd.fst ((i, sa, sc, S), J).fst.snd.snd.snd]) (by kernel_rfl) rfl ?_)
    have hSl : S.length = i := by rw [hS, List.length_replicate]
    by_cases hlt : i < k
    · (focus
        refine Xg.at_seq ?_
        refine Xg.at_seq ?_
        refine Xg.at_region ?_
        refine Xg.ops_op (by kernel_rfl) (Xg.opx_pure ((iv (↑i : Int))) rfl (fun _ => by kernel_rfl) ?_)
        refine Xg.ops_op (by kernel_rfl) (Xg.opx_pure ((iv (↑k : Int))) rfl (fun _ => by kernel_rfl) ?_)
        refine Xg.ops_op (by kernel_rfl) (Xg.opx_pure (.bool (decide ((((↑i : Int)) : Int) < ((↑k : Int))))) rfl (fun _ => by kernel_rfl) ?_)
        refine Xg.ops_nil ?_
        refine Xg.at_true (t := decide (((↑i : Int) < (↑k : Int)))) (by kernel_rfl) (decide_eq_true (by omega)) ?_
        refine Xg.at_skip ?_
        refine Xg.at_seq ?_
        refine Xg.at_block ?_
        refine Xg.at_region ?_
        refine Xg.ops_op (by kernel_rfl) (Xg.opx_pure ((pv xb1 0)) rfl (fun _ => by kernel_rfl) ?_)
        refine Xg.ops_op (by kernel_rfl) (Xg.opx_pure ((pv xb1 0)) rfl (fun _ => by kernel_rfl) ?_)
        refine Xg.ops_op (by kernel_rfl) (Xg.opx_pure ((pv xb1 0)) rfl (fun _ => by kernel_rfl) ?_)
        refine Xg.ops_op (by kernel_rfl) (Xg.opx_pure ((pv xb1 1)) rfl (fun _ => by kernel_rfl) ?_)
        refine Xg.ops_op (by kernel_rfl) (Xg.opx_load (b := xb1) (off := ((1 : Nat))) 0 (Value.slice sa S.length sc) rfl (by kernel_rfl) (by kernel_rfl) (by kernel_rfl) ?_)
        refine Xg.ops_op (by kernel_rfl) (Xg.opx_bs (elem := 3) 1 [iv (-1)] [iv (-1)] (by kernel_rfl) (by kernel_rfl) (by decide) rfl (by kernel_rfl) (by kernel_rfl) (by kernel_rfl) (by kernel_rfl) fun xb2 => ?_)
        refine Xg.ops_op (by kernel_rfl) (Xg.opx_append_ints (kd := .i64) (yv := (Value.slice (some (Addr.mk xb2 (0 : Nat) none)) (1 : Nat) (1 : Nat))) (m := ((1 : Nat))) (xs := (((i, sa, sc, S), J).fst.snd.snd.snd)) (elem := 3) 2 8 [(-1 : Int)] rfl (by kernel_rfl) (by kernel_rfl) (by kernel_rfl) (by kernel_rfl) (by first | rfl | assumption | omega | (simp; done) | (simp; omega)) (fun _ hS => Xg.row_rd hS 0 rfl (by kernel_rfl)) (by first | omega | (simp only [List.length_nil, List.length_cons]; omega) | (simp; omega)) (by first | omega | (simp only [List.length_nil, List.length_cons]; omega) | (simp; omega)) fun xa1 xc1 => ?_)
        have xl1 : ((((i, sa, sc, S), J).fst.snd.snd.snd) ++ [(-1 : Int)] : List Int).length = ((((i, sa, sc, S), J).fst.snd.snd.snd) : List Int).length + ((1 : Nat)) := by first | (simp; done) | (simp; omega)
        refine Xg.ops_op (by kernel_rfl) (Xg.opx_pure ((pv xb1 0)) rfl (fun _ => by kernel_rfl) ?_)
        refine Xg.ops_op (by kernel_rfl) (Xg.opx_pure ((pv xb1 1)) rfl (fun _ => by kernel_rfl) ?_)
        refine Xg.ops_op (by kernel_rfl) (Xg.opx_store1 (off := 1) 1 (Value.slice xa1 (S ++ [(-1 : Int)]).length xc1) (by kernel_rfl) rfl (by kernel_rfl) (by kernel_rfl) (by kernel_rfl) (Nat.le_of_ble_eq_true (by kernel_rfl)) ?_)
        refine Xg.ops_nil ?_
        refine Xg.at_inBlock ?_
        refine Xg.at_region ?_
        refine Xg.ops_op (by kernel_rfl) (Xg.opx_pure ((iv (↑i : Int))) rfl (fun _ => by kernel_rfl) ?_)
        refine Xg.ops_op (by kernel_rfl) (Xg.opx_int .i64 (IntKind.wrap .i64 (((↑i : Int) + (1 : Int)))) rfl (fun _ => by kernel_rfl) (Xg.wrap_i64_in (by omega)) ?_)
        refine Xg.ops_op (by kernel_rfl) (Xg.opx_pure ((iv ((↑i : Int) + (1 : Int)))) rfl (fun _ => by kernel_rfl) ?_)
        refine Xg.ops_nil ?_
        refine Xg.at_inLoop ?_)
      (focus
        refine Xg.at_keep [1, 2] (by kernel_rfl) ?_
        refine Xs.same ?_ (fun J9 => ih (((i + 1, xa1, xc1, S ++ [-1])), J9) ?_ ?_) (by kernel_rfl))
      · rfl
      · exact ⟨hlt, by rw [hS, List.replicate_succ']⟩
      · dsimp only; omega
    · obtain rfl : i = k := by omega
      clear ih
      subst hS
      (focus
        refine Xg.at_seq ?_
        refine Xg.at_seq ?_
        refine Xg.at_region ?_
        refine Xg.ops_op (by kernel_rfl) (Xg.opx_pure ((iv (↑i : Int))) rfl (fun _ => by kernel_rfl) ?_)
        refine Xg.ops_op (by kernel_rfl) (Xg.opx_pure ((iv (↑i : Int))) rfl (fun _ => by kernel_rfl) ?_)
        refine Xg.ops_op (by kernel_rfl) (Xg.opx_pure (.bool (decide ((((↑i : Int)) : Int) < ((↑i : Int))))) rfl (fun _ => by kernel_rfl) ?_)
        refine Xg.ops_nil ?_
        refine Xg.at_false (t := decide (((↑i : Int) < (↑i : Int)))) (by kernel_rfl) (decide_eq_false (by omega)) ?_
        refine Xg.at_exit rfl ?_
        refine Xg.at_seq ?_
        refine Xg.at_region ?_
        refine Xg.ops_op (by kernel_rfl) (Xg.opx_pure ((pv xb1 0)) rfl (fun _ => by kernel_rfl) ?_)
        refine Xg.ops_op (by kernel_rfl) (Xg.opx_pure ((pv xb1 0)) rfl (fun _ => by kernel_rfl) ?_)
        refine Xg.ops_op (by kernel_rfl) (Xg.opx_pure ((iv 0)) rfl (fun _ => by kernel_rfl) ?_)
        refine Xg.ops_nil ?_
        refine Xg.at_ret_ps (v := (Value.tuple #[pv xb1 0, iv 0])) [0, 1] [row xb1 (80 : TypeId) [Value.slice none (0 : Nat) (0 : Nat), Value.slice sa (List.replicate i (-1 : Int)).length sc], SP sa sc (List.replicate i (-1 : Int))] Go.Proofs.Try.func31 (fun _ => by kernel_rfl) (by kernel_rfl) (by kernel_rfl) ?_
        refine ⟨((xb1, sa, sc)), trivial, by kernel_rfl, by kernel_rfl⟩)
  constructor
  intro g F w hS cs
  obtain ⟨e, w', fr, ⟨v, ps, ⟨x, hx, rfl, rfl⟩, rfl, h3⟩, h4⟩ := h.run g F w hS cs
  have h5 : SL g (RR none 0 [] :: _) w' := h3.own_nil 82 2
  exact ⟨_, w', fr, ⟨_, _, ⟨x.1, trivial, rfl, rfl⟩, rfl, ref_shut (ra := none) (rc := 0) (sa := x.2.1) (sc := x.2.2) (h5.perm (.swap _ _ _))⟩, h4⟩
theorem radd_d (p : Nat) (r : List (Int × Bool)) (s : List Int) (id : Int) (h64 : r.length ≤ 64) : Does Try.prog 32 [.pointer (some ⟨p, 0, none⟩), .int .i64 id] [RefP p r s] (Ret (.int .i64 (addE id r)) [RefP p (addR id r) s]) := by
  refine refR fun ra rc sa sc => ?_
  have hf := fun sv => rfind_d p ra rc sv r id (by omega)
  unfold addR addE
  by_cases c1 : id < 0
  · rw [if_pos c1, if_neg (by decide)]
    (focus
      refine Xg.spec_of Go.Proofs.Try.func32 rfl Go.Proofs.Try.ntmps32 fun g F => ?_)
    (focus
      refine Xg.at_seq ?_
      refine Xg.at_region ?_
      refine Xg.ops_op (by kernel_rfl) (Xg.opx_pure ((iv 0)) rfl (fun _ => by kernel_rfl) ?_)
      refine Xg.ops_nil ?_
      refine Xg.at_seq ?_
      refine Xg.at_seq ?_
      refine Xg.at_region ?_
      refine Xg.ops_op (by kernel_rfl) (Xg.opx_pure ((iv id)) rfl (fun _ => by kernel_rfl) ?_)
      refine Xg.ops_op (by kernel_rfl) (Xg.opx_pure (.bool (decide ((id : Int) < ((0 : Int))))) rfl (fun _ => by kernel_rfl) ?_)
      refine Xg.ops_nil ?_
      refine Xg.at_true (t := decide ((id < (0 : Int)))) (by kernel_rfl) (decide_eq_true (by omega)) ?_
      refine Xg.at_seq ?_
      refine Xg.at_region ?_
      refine Xg.ops_op (by kernel_rfl) (Xg.opx_pure ((iv 1)) rfl (fun _ => by kernel_rfl) ?_)
      refine Xg.ops_nil ?_
      refine Xg.at_ret_ps (v := (iv 1)) [0, 1, 2] [RH p ra r.length rc sa s.length sc, RR ra rc r, SP sa sc s] Go.Proofs.Try.func32 (fun _ => by kernel_rfl) (by kernel_rfl) (by kernel_rfl) ?_
      refine ⟨((ra, rc, sa, sc)), trivial, by kernel_rfl, by kernel_rfl⟩)
  · rw [if_neg c1]
    by_cases c2 : 0 ≤ at_ id r
    · rw [if_pos c2, if_neg (by decide)]
      (focus
        refine Xg.spec_of Go.Proofs.Try.func32 rfl Go.Proofs.Try.ntmps32 fun g F => ?_)
      (focus
        refine Xg.at_seq ?_
        refine Xg.at_region ?_
        refine Xg.ops_op (by kernel_rfl) (Xg.opx_pure ((iv 0)) rfl (fun _ => by kernel_rfl) ?_)
        refine Xg.ops_nil ?_
        refine Xg.at_seq ?_
        refine Xg.at_seq ?_
        refine Xg.at_region ?_
        refine Xg.ops_op (by kernel_rfl) (Xg.opx_pure ((iv id)) rfl (fun _ => by kernel_rfl) ?_)
        refine Xg.ops_op (by kernel_rfl) (Xg.opx_pure (.bool (decide ((id : Int) < ((0 : Int))))) rfl (fun _ => by kernel_rfl) ?_)
        refine Xg.ops_nil ?_
        refine Xg.at_false (t := decide ((id < (0 : Int)))) (by kernel_rfl) (decide_eq_false (by omega)) ?_
        refine Xg.at_skip ?_
        refine Xg.at_seq ?_
        refine Xg.at_region ?_
        refine Xg.ops_op (by kernel_rfl) (Xg.opx_pure ((pv p 0)) rfl (fun _ => by kernel_rfl) ?_)
        refine Xg.ops_op (by kernel_rfl) (Xg.opx_pure ((iv id)) rfl (fun _ => by kernel_rfl) ?_)
        refine Xg.ops_op (by kernel_rfl) (Xg.opx_call1' [0, 1] [row p (80 : TypeId) [Value.slice ra r.length rc, Value.slice sa s.length sc], RR ra rc r, SP sa sc s] (fun _ => by kernel_rfl) (@hf ((Value.slice sa s.length sc))) (by kernel_rfl) (by kernel_rfl) (by kernel_rfl) ?_)
        refine Xg.ops_op (by kernel_rfl) (Xg.opx_pure ((iv (at_ id r))) rfl (fun _ => by kernel_rfl) ?_)
        refine Xg.ops_nil ?_
        refine Xg.at_seq ?_
        refine Xg.at_seq ?_
        refine Xg.at_region ?_
        refine Xg.ops_op (by kernel_rfl) (Xg.opx_pure ((iv (at_ id r))) rfl (fun _ => by kernel_rfl) ?_)
        refine Xg.ops_op (by kernel_rfl) (Xg.opx_pure (.bool (decide (((at_ id r) : Int) ≥ ((0 : Int))))) rfl (fun _ => by kernel_rfl) ?_)
        refine Xg.ops_nil ?_
        refine Xg.at_true (t := decide ((at_ id r ≥ (0 : Int)))) (by kernel_rfl) (decide_eq_true (by omega)) ?_
        refine Xg.at_seq ?_
        refine Xg.at_region ?_
        refine Xg.ops_op (by kernel_rfl) (Xg.opx_pure ((iv 132)) rfl (fun _ => by kernel_rfl) ?_)
        refine Xg.ops_nil ?_
        refine Xg.at_ret_ps (v := (iv 132)) [0, 1, 2] [row p (80 : TypeId) [Value.slice ra r.length rc, Value.slice sa s.length sc], RR ra rc r, SP sa sc s] Go.Proofs.Try.func32 (fun _ => by kernel_rfl) (by kernel_rfl) (by kernel_rfl) ?_
        refine ⟨((ra, rc, sa, sc)), trivial, by kernel_rfl, by kernel_rfl⟩)
    · rw [if_neg c2]
      by_cases c3 : r.length = 64
      · rw [if_pos c3, if_neg (by decide)]
        (focus
          refine Xg.spec_of Go.Proofs.Try.func32 rfl Go.Proofs.Try.ntmps32 fun g F => ?_)
        (focus
          refine Xg.at_seq ?_
          refine Xg.at_region ?_
          refine Xg.ops_op (by kernel_rfl) (Xg.opx_pure ((iv 0)) rfl (fun _ => by kernel_rfl) ?_)
          refine Xg.ops_nil ?_
          refine Xg.at_seq ?_
          refine Xg.at_seq ?_
          refine Xg.at_region ?_
          refine Xg.ops_op (by kernel_rfl) (Xg.opx_pure ((iv id)) rfl (fun _ => by kernel_rfl) ?_)
          refine Xg.ops_op (by kernel_rfl) (Xg.opx_pure (.bool (decide ((id : Int) < ((0 : Int))))) rfl (fun _ => by kernel_rfl) ?_)
          refine Xg.ops_nil ?_
          refine Xg.at_false (t := decide ((id < (0 : Int)))) (by kernel_rfl) (decide_eq_false (by omega)) ?_
          refine Xg.at_skip ?_
          refine Xg.at_seq ?_
          refine Xg.at_region ?_
          refine Xg.ops_op (by kernel_rfl) (Xg.opx_pure ((pv p 0)) rfl (fun _ => by kernel_rfl) ?_)
          refine Xg.ops_op (by kernel_rfl) (Xg.opx_pure ((iv id)) rfl (fun _ => by kernel_rfl) ?_)
          refine Xg.ops_op (by kernel_rfl) (Xg.opx_call1' [0, 1] [row p (80 : TypeId) [Value.slice ra r.length rc, Value.slice sa s.length sc], RR ra rc r, SP sa sc s] (fun _ => by kernel_rfl) (@hf ((Value.slice sa s.length sc))) (by kernel_rfl) (by kernel_rfl) (by kernel_rfl) ?_)
          refine Xg.ops_op (by kernel_rfl) (Xg.opx_pure ((iv (at_ id r))) rfl (fun _ => by kernel_rfl) ?_)
          refine Xg.ops_nil ?_
          refine Xg.at_seq ?_
          refine Xg.at_seq ?_
          refine Xg.at_region ?_
          refine Xg.ops_op (by kernel_rfl) (Xg.opx_pure ((iv (at_ id r))) rfl (fun _ => by kernel_rfl) ?_)
          refine Xg.ops_op (by kernel_rfl) (Xg.opx_pure (.bool (decide (((at_ id r) : Int) ≥ ((0 : Int))))) rfl (fun _ => by kernel_rfl) ?_)
          refine Xg.ops_nil ?_
          refine Xg.at_false (t := decide ((at_ id r ≥ (0 : Int)))) (by kernel_rfl) (decide_eq_false (by omega)) ?_
          refine Xg.at_skip ?_
          refine Xg.at_seq ?_
          refine Xg.at_seq ?_
          refine Xg.at_region ?_
          refine Xg.ops_op (by kernel_rfl) (Xg.opx_pure ((pv p 0)) rfl (fun _ => by kernel_rfl) ?_)
          refine Xg.ops_op (by kernel_rfl) (Xg.opx_pure ((pv p 0)) rfl (fun _ => by kernel_rfl) ?_)
          refine Xg.ops_op (by kernel_rfl) (Xg.opx_pure ((pv p 0)) rfl (fun _ => by kernel_rfl) ?_)
          refine Xg.ops_op (by kernel_rfl) (Xg.opx_load (b := p) (off := ((0 : Nat))) 0 (Value.slice ra r.length rc) rfl (by kernel_rfl) (by kernel_rfl) (by kernel_rfl) ?_)
          refine Xg.ops_op (by kernel_rfl) (Xg.opx_pure ((iv (↑r.length : Int))) rfl (fun _ => by kernel_rfl) ?_)
          refine Xg.ops_op (by kernel_rfl) (Xg.opx_pure (.bool (decide ((((↑r.length : Int)) : Int) ≥ ((64 : Int))))) rfl (fun _ => by kernel_rfl) ?_)
          refine Xg.ops_nil ?_
          refine Xg.at_true (t := decide (((↑r.length : Int) ≥ (64 : Int)))) (by kernel_rfl) (decide_eq_true (by omega)) ?_
          refine Xg.at_seq ?_
          refine Xg.at_region ?_
          refine Xg.ops_op (by kernel_rfl) (Xg.opx_pure ((iv 133)) rfl (fun _ => by kernel_rfl) ?_)
          refine Xg.ops_nil ?_
          refine Xg.at_ret_ps (v := (iv 133)) [0, 1, 2] [row p (80 : TypeId) [Value.slice ra r.length rc, Value.slice sa s.length sc], RR ra rc r, SP sa sc s] Go.Proofs.Try.func32 (fun _ => by kernel_rfl) (by kernel_rfl) (by kernel_rfl) ?_
          refine ⟨((ra, rc, sa, sc)), trivial, by kernel_rfl, by kernel_rfl⟩)
      · rw [if_neg c3, if_pos rfl]
        (focus
          refine Xg.spec_of Go.Proofs.Try.func32 rfl Go.Proofs.Try.ntmps32 fun g F => ?_)
        (focus
          refine Xg.at_seq ?_
          refine Xg.at_region ?_
          refine Xg.ops_op (by kernel_rfl) (Xg.opx_pure ((iv 0)) rfl (fun _ => by kernel_rfl) ?_)
          refine Xg.ops_nil ?_
          refine Xg.at_seq ?_
          refine Xg.at_seq ?_
          refine Xg.at_region ?_
          refine Xg.ops_op (by kernel_rfl) (Xg.opx_pure ((iv id)) rfl (fun _ => by kernel_rfl) ?_)
          refine Xg.ops_op (by kernel_rfl) (Xg.opx_pure (.bool (decide ((id : Int) < ((0 : Int))))) rfl (fun _ => by kernel_rfl) ?_)
          refine Xg.ops_nil ?_
          refine Xg.at_false (t := decide ((id < (0 : Int)))) (by kernel_rfl) (decide_eq_false (by omega)) ?_
          refine Xg.at_skip ?_
          refine Xg.at_seq ?_
          refine Xg.at_region ?_
          refine Xg.ops_op (by kernel_rfl) (Xg.opx_pure ((pv p 0)) rfl (fun _ => by kernel_rfl) ?_)
          refine Xg.ops_op (by kernel_rfl) (Xg.opx_pure ((iv id)) rfl (fun _ => by kernel_rfl) ?_)
          refine Xg.ops_op (by kernel_rfl) (Xg.opx_call1' [0, 1] [row p (80 : TypeId) [Value.slice ra r.length rc, Value.slice sa s.length sc], RR ra rc r, SP sa sc s] (fun _ => by kernel_rfl) (@hf ((Value.slice sa s.length sc))) (by kernel_rfl) (by kernel_rfl) (by kernel_rfl) ?_)
          refine Xg.ops_op (by kernel_rfl) (Xg.opx_pure ((iv (at_ id r))) rfl (fun _ => by kernel_rfl) ?_)
          refine Xg.ops_nil ?_
          refine Xg.at_seq ?_
          refine Xg.at_seq ?_
          refine Xg.at_region ?_
          refine Xg.ops_op (by kernel_rfl) (Xg.opx_pure ((iv (at_ id r))) rfl (fun _ => by kernel_rfl) ?_)
          refine Xg.ops_op (by kernel_rfl) (Xg.opx_pure (.bool (decide (((at_ id r) : Int) ≥ ((0 : Int))))) rfl (fun _ => by kernel_rfl) ?_)
          refine Xg.ops_nil ?_
          refine Xg.at_false (t := decide ((at_ id r ≥ (0 : Int)))) (by kernel_rfl) (decide_eq_false (by omega)) ?_
          refine Xg.at_skip ?_
          refine Xg.at_seq ?_
          refine Xg.at_seq ?_
          refine Xg.at_region ?_
          refine Xg.ops_op (by kernel_rfl) (Xg.opx_pure ((pv p 0)) rfl (fun _ => by kernel_rfl) ?_)
          refine Xg.ops_op (by kernel_rfl) (Xg.opx_pure ((pv p 0)) rfl (fun _ => by kernel_rfl) ?_)
          refine Xg.ops_op (by kernel_rfl) (Xg.opx_pure ((pv p 0)) rfl (fun _ => by kernel_rfl) ?_)
          refine Xg.ops_op (by kernel_rfl) (Xg.opx_load (b := p) (off := ((0 : Nat))) 0 (Value.slice ra r.length rc) rfl (by kernel_rfl) (by kernel_rfl) (by kernel_rfl) ?_)
          refine Xg.ops_op (by kernel_rfl) (Xg.opx_pure ((iv (↑r.length : Int))) rfl (fun _ => by kernel_rfl) ?_)
          refine Xg.ops_op (by kernel_rfl) (Xg.opx_pure (.bool (decide ((((↑r.length : Int)) : Int) ≥ ((64 : Int))))) rfl (fun _ => by kernel_rfl) ?_)
          refine Xg.ops_nil ?_
          refine Xg.at_false (t := decide (((↑r.length : Int) ≥ (64 : Int)))) (by kernel_rfl) (decide_eq_false (by omega)) ?_
          refine Xg.at_skip ?_
          refine Xg.at_seq ?_
          refine Xg.at_region ?_
          refine Xg.ops_op (by kernel_rfl) (Xg.opx_pure ((pv p 0)) rfl (fun _ => by kernel_rfl) ?_)
          refine Xg.ops_op (by kernel_rfl) (Xg.opx_pure ((pv p 0)) rfl (fun _ => by kernel_rfl) ?_)
          refine Xg.ops_op (by kernel_rfl) (Xg.opx_pure ((pv p 0)) rfl (fun _ => by kernel_rfl) ?_)
          refine Xg.ops_op (by kernel_rfl) (Xg.opx_pure ((pv p 0)) rfl (fun _ => by kernel_rfl) ?_)
          refine Xg.ops_op (by kernel_rfl) (Xg.opx_load (b := p) (off := ((0 : Nat))) 0 (Value.slice ra r.length rc) rfl (by kernel_rfl) (by kernel_rfl) (by kernel_rfl) ?_)
          refine Xg.ops_op (by kernel_rfl) (Xg.opx_pure ((iv id)) rfl (fun _ => by kernel_rfl) ?_)
          refine Xg.ops_op (by kernel_rfl) (Xg.opx_pure ((Value.agg #[iv id, Value.bool false])) rfl (fun _ => by kernel_rfl) ?_)
          refine Xg.ops_op (by kernel_rfl) (Xg.opx_bs (elem := 82) 2 [Value.agg #[iv id, Value.bool false]] [iv id, Value.bool false] (by kernel_rfl) (by kernel_rfl) (by decide) rfl (by kernel_rfl) (by kernel_rfl) (by kernel_rfl) (by kernel_rfl) fun xb1 => ?_)
          refine Xg.ops_op (by kernel_rfl) (Xg.opx_append_recs (elem := 82) (yv := (Value.slice (some (Addr.mk xb1 (0 : Nat) none)) (1 : Nat) (1 : Nat))) (l := r) 2 2 64 ((id, false)) rfl (by kernel_rfl) (by kernel_rfl) (by kernel_rfl) (by kernel_rfl) (fun _ hS => Xg.row_rd hS 0 rfl (by kernel_rfl)) (by kernel_rfl) (by first | omega | (simp only [List.length_nil]; omega) | (simp; done) | (simp; omega)) (by first | omega | (simp only [List.length_nil]; omega) | (simp; done) | (simp; omega)) fun xa1 xc1 => ?_)
          have xl1 : ((r : (List (Int × Bool))) ++ ([((id, false))] : (List (Int × Bool)))).length = (r : (List (Int × Bool))).length + 1 := by simp
          refine Xg.ops_op (by kernel_rfl) (Xg.opx_pure ((pv p 0)) rfl (fun _ => by kernel_rfl) ?_)
          refine Xg.ops_op (by kernel_rfl) (Xg.opx_pure ((pv p 0)) rfl (fun _ => by kernel_rfl) ?_)
          refine Xg.ops_op (by kernel_rfl) (Xg.opx_store1 (off := 0) 1 (Value.slice xa1 (r ++ [(id, false)]).length xc1) (by kernel_rfl) rfl (by kernel_rfl) (by kernel_rfl) (by kernel_rfl) (Nat.le_of_ble_eq_true (by kernel_rfl)) ?_)
          refine Xg.ops_nil ?_
          refine Xg.at_seq ?_
          refine Xg.at_region ?_
          refine Xg.ops_op (by kernel_rfl) (Xg.opx_pure ((iv 0)) rfl (fun _ => by kernel_rfl) ?_)
          refine Xg.ops_nil ?_
          refine Xg.at_ret_ps (v := (iv 0)) [1, 2, 3] [row p (80 : TypeId) [Value.slice xa1 (r ++ [(id, false)]).length xc1, Value.slice sa s.length sc], recsO (82 : TypeId) (2 : Nat) mc xa1 xc1 (r ++ [(id, false)]), SP sa sc s] Go.Proofs.Try.func32 (fun _ => by kernel_rfl) (by kernel_rfl) (by kernel_rfl) ?_
          refine ⟨((xa1, xc1, sa, sc)), trivial, by kernel_rfl, by kernel_rfl⟩)
theorem rremove_d (p : Nat) (r : List (Int × Bool)) (s : List Int) (id : Int) (h64 : r.length ≤ 64) : Does Try.prog 33 [.pointer (some ⟨p, 0, none⟩), .int .i64 id] [RefP p r s] (Ret (.int .i64 (hasE id r)) [RefP p (remR id r) s]) := by
  refine refR fun ra rc sa sc => ?_
  have hf := fun sv => rfind_d p ra rc sv r id (by omega)
  have hg := at_ge id r
  unfold remR hasE
  by_cases c1 : at_ id r < 0
  · rw [if_pos c1, if_pos c1]
    (focus
      refine Xg.spec_of Go.Proofs.Try.func33 rfl Go.Proofs.Try.ntmps33 fun g F => ?_)
    (focus
      refine Xg.at_seq ?_
      refine Xg.at_region ?_
      refine Xg.ops_op (by kernel_rfl) (Xg.opx_pure ((iv 0)) rfl (fun _ => by kernel_rfl) ?_)
      refine Xg.ops_nil ?_
      refine Xg.at_seq ?_
      refine Xg.at_region ?_
      refine Xg.ops_op (by kernel_rfl) (Xg.opx_pure ((pv p 0)) rfl (fun _ => by kernel_rfl) ?_)
      refine Xg.ops_op (by kernel_rfl) (Xg.opx_pure ((iv id)) rfl (fun _ => by kernel_rfl) ?_)
      refine Xg.ops_op (by kernel_rfl) (Xg.opx_call1' [0, 1] [row p (80 : TypeId) [Value.slice ra r.length rc, Value.slice sa s.length sc], RR ra rc r, SP sa sc s] (fun _ => by kernel_rfl) (@hf ((Value.slice sa s.length sc))) (by kernel_rfl) (by kernel_rfl) (by kernel_rfl) ?_)
      refine Xg.ops_op (by kernel_rfl) (Xg.opx_pure ((iv (at_ id r))) rfl (fun _ => by kernel_rfl) ?_)
      refine Xg.ops_nil ?_
      refine Xg.at_seq ?_
      refine Xg.at_seq ?_
      refine Xg.at_region ?_
      refine Xg.ops_op (by kernel_rfl) (Xg.opx_pure ((iv (at_ id r))) rfl (fun _ => by kernel_rfl) ?_)
      refine Xg.ops_op (by kernel_rfl) (Xg.opx_pure (.bool (decide (((at_ id r) : Int) < ((0 : Int))))) rfl (fun _ => by kernel_rfl) ?_)
      refine Xg.ops_nil ?_
      refine Xg.at_true (t := decide ((at_ id r < (0 : Int)))) (by kernel_rfl) (decide_eq_true (by omega)) ?_
      refine Xg.at_seq ?_
      refine Xg.at_region ?_
      refine Xg.ops_op (by kernel_rfl) (Xg.opx_pure ((iv 132)) rfl (fun _ => by kernel_rfl) ?_)
      refine Xg.ops_nil ?_
      refine Xg.at_ret_ps (v := (iv 132)) [0, 1, 2] [row p (80 : TypeId) [Value.slice ra r.length rc, Value.slice sa s.length sc], RR ra rc r, SP sa sc s] Go.Proofs.Try.func33 (fun _ => by kernel_rfl) (by kernel_rfl) (by kernel_rfl) ?_
      refine ⟨((ra, rc, sa, sc)), trivial, by kernel_rfl, by kernel_rfl⟩)
  · rw [if_neg c1, if_neg c1]
    obtain ⟨k, hk⟩ : ∃ k : Nat, at_ id r = k := ⟨(at_ id r).toNat, by omega⟩
    rw [hk] at hf hg ⊢
    have hw := fun sv => rwithout_d p ra rc sv r k (by omega) (by omega)
    rw [Int.toNat_natCast]
    (focus
      refine Xg.spec_of Go.Proofs.Try.func33 rfl Go.Proofs.Try.ntmps33 fun g F => ?_)
    (focus
      refine Xg.at_seq ?_
      refine Xg.at_region ?_
      refine Xg.ops_op (by kernel_rfl) (Xg.opx_pure ((iv 0)) rfl (fun _ => by kernel_rfl) ?_)
      refine Xg.ops_nil ?_
      refine Xg.at_seq ?_
      refine Xg.at_region ?_
      refine Xg.ops_op (by kernel_rfl) (Xg.opx_pure ((pv p 0)) rfl (fun _ => by kernel_rfl) ?_)
      refine Xg.ops_op (by kernel_rfl) (Xg.opx_pure ((iv id)) rfl (fun _ => by kernel_rfl) ?_)
      refine Xg.ops_op (by kernel_rfl) (Xg.opx_call1' [0, 1] [row p (80 : TypeId) [Value.slice ra r.length rc, Value.slice sa s.length sc], RR ra rc r, SP sa sc s] (fun _ => by kernel_rfl) (@hf ((Value.slice sa s.length sc))) (by kernel_rfl) (by kernel_rfl) (by kernel_rfl) ?_)
      refine Xg.ops_op (by kernel_rfl) (Xg.opx_pure ((iv (↑k : Int))) rfl (fun _ => by kernel_rfl) ?_)
      refine Xg.ops_nil ?_
      refine Xg.at_seq ?_
      refine Xg.at_seq ?_
      refine Xg.at_region ?_
      refine Xg.ops_op (by kernel_rfl) (Xg.opx_pure ((iv (↑k : Int))) rfl (fun _ => by kernel_rfl) ?_)
      refine Xg.ops_op (by kernel_rfl) (Xg.opx_pure (.bool (decide ((((↑k : Int)) : Int) < ((0 : Int))))) rfl (fun _ => by kernel_rfl) ?_)
      refine Xg.ops_nil ?_
      refine Xg.at_false (t := false) (by kernel_rfl) rfl ?_
      refine Xg.at_skip ?_
      refine Xg.at_seq ?_
      refine Xg.at_region ?_
      refine Xg.ops_op (by kernel_rfl) (Xg.opx_pure ((pv p 0)) rfl (fun _ => by kernel_rfl) ?_)
      refine Xg.ops_op (by kernel_rfl) (Xg.opx_pure ((pv p 0)) rfl (fun _ => by kernel_rfl) ?_)
      refine Xg.ops_op (by kernel_rfl) (Xg.opx_pure ((iv (↑k : Int))) rfl (fun _ => by kernel_rfl) ?_)
      refine Xg.ops_op (by kernel_rfl) (Xg.opx_callE' [0, 1] (fun xx1 => [row p (80 : TypeId) [Value.slice ra r.length rc, Value.slice sa s.length sc], RR ra rc r, RR xx1.fst xx1.snd (r.eraseIdx k), SP sa sc s]) (fun _ => by kernel_rfl) (@hw ((Value.slice sa s.length sc))) (by kernel_rfl) (by kernel_rfl) (by kernel_rfl) fun xx1 xh1 => ?_)
      try dsimp only at xh1
      refine Xg.ops_op (by kernel_rfl) (Xg.opx_pure ((pv p 0)) rfl (fun _ => by kernel_rfl) ?_)
      refine Xg.ops_op (by kernel_rfl) (Xg.opx_pure ((pv p 0)) rfl (fun _ => by kernel_rfl) ?_)
      refine Xg.ops_op (by kernel_rfl) (Xg.opx_store1 (off := 0) 0 (Value.slice xx1.fst (r.eraseIdx k).length xx1.snd) (by kernel_rfl) rfl (by kernel_rfl) (by kernel_rfl) (by kernel_rfl) (Nat.le_of_ble_eq_true (by kernel_rfl)) ?_)
      refine Xg.ops_nil ?_
      refine Xg.at_seq ?_
      refine Xg.at_region ?_
      refine Xg.ops_op (by kernel_rfl) (Xg.opx_pure ((iv 0)) rfl (fun _ => by kernel_rfl) ?_)
      refine Xg.ops_nil ?_
      refine Xg.at_ret_ps (v := (iv 0)) [0, 2, 3] [row p (80 : TypeId) [Value.slice xx1.fst (r.eraseIdx k).length xx1.snd, Value.slice sa s.length sc], RR xx1.fst xx1.snd (r.eraseIdx k), SP sa sc s] Go.Proofs.Try.func33 (fun _ => by kernel_rfl) (by kernel_rfl) (by kernel_rfl) ?_
      refine ⟨((xx1.fst, xx1.snd, sa, sc)), trivial, by kernel_rfl, by kernel_rfl⟩)
theorem rready_d (p : Nat) (r : List (Int × Bool)) (s : List Int) (id : Int) (b : Bool) (h64 : r.length ≤ 64) : Does Try.prog 34 [.pointer (some ⟨p, 0, none⟩), .int .i64 id, .bool b] [RefP p r s] (Ret (.int .i64 (hasE id r)) [RefP p (rdyR id b r) s]) := by
  refine refR fun ra rc sa sc => ?_
  have hf := fun sv => rfind_d p ra rc sv r id (by omega)
  have hg := at_ge id r
  unfold rdyR hasE
  by_cases c1 : at_ id r < 0
  · rw [if_pos c1, if_pos c1]
    (focus
      refine Xg.spec_of Go.Proofs.Try.func34 rfl Go.Proofs.Try.ntmps34 fun g F => ?_)
    (focus
      refine Xg.at_seq ?_
      refine Xg.at_region ?_
      refine Xg.ops_op (by kernel_rfl) (Xg.opx_pure ((iv 0)) rfl (fun _ => by kernel_rfl) ?_)
      refine Xg.ops_nil ?_
      refine Xg.at_seq ?_
      refine Xg.at_region ?_
      refine Xg.ops_op (by kernel_rfl) (Xg.opx_pure ((pv p 0)) rfl (fun _ => by kernel_rfl) ?_)
      refine Xg.ops_op (by kernel_rfl) (Xg.opx_pure ((iv id)) rfl (fun _ => by kernel_rfl) ?_)
      refine Xg.ops_op (by kernel_rfl) (Xg.opx_call1' [0, 1] [row p (80 : TypeId) [Value.slice ra r.length rc, Value.slice sa s.length sc], RR ra rc r, SP sa sc s] (fun _ => by kernel_rfl) (@hf ((Value.slice sa s.length sc))) (by kernel_rfl) (by kernel_rfl) (by kernel_rfl) ?_)
      refine Xg.ops_op (by kernel_rfl) (Xg.opx_pure ((iv (at_ id r))) rfl (fun _ => by kernel_rfl) ?_)
      refine Xg.ops_nil ?_
      refine Xg.at_seq ?_
      refine Xg.at_seq ?_
      refine Xg.at_region ?_
      refine Xg.ops_op (by kernel_rfl) (Xg.opx_pure ((iv (at_ id r))) rfl (fun _ => by kernel_rfl) ?_)
      refine Xg.ops_op (by kernel_rfl) (Xg.opx_pure (.bool (decide (((at_ id r) : Int) < ((0 : Int))))) rfl (fun _ => by kernel_rfl) ?_)
      refine Xg.ops_nil ?_
      refine Xg.at_true (t := decide ((at_ id r < (0 : Int)))) (by kernel_rfl) (decide_eq_true (by omega)) ?_
      refine Xg.at_seq ?_
      refine Xg.at_region ?_
      refine Xg.ops_op (by kernel_rfl) (Xg.opx_pure ((iv 132)) rfl (fun _ => by kernel_rfl) ?_)
      refine Xg.ops_nil ?_
      refine Xg.at_ret_ps (v := (iv 132)) [0, 1, 2] [row p (80 : TypeId) [Value.slice ra r.length rc, Value.slice sa s.length sc], RR ra rc r, SP sa sc s] Go.Proofs.Try.func34 (fun _ => by kernel_rfl) (by kernel_rfl) (by kernel_rfl) ?_
      refine ⟨((ra, rc, sa, sc)), trivial, by kernel_rfl, by kernel_rfl⟩)
  · rw [if_neg c1, if_neg c1]
    have hai := at_id id r (by omega)
    obtain ⟨k, hk⟩ : ∃ k : Nat, at_ id r = k := ⟨(at_ id r).toNat, by omega⟩
    rw [hk] at hf hg hai ⊢
    rw [Int.toNat_natCast] at hai ⊢
    have hs := mc_set r k b (by omega)
    rw [hai] at hs
    have hrl := mc_len r
    (focus
      refine Xg.spec_of Go.Proofs.Try.func34 rfl Go.Proofs.Try.ntmps34 fun g F => ?_)
    refine Xg.at_off 1 rfl (by omega) fun hoff => ?_
    (focus
      refine Xg.at_seq ?_
      refine Xg.at_region ?_
      refine Xg.ops_op (by kernel_rfl) (Xg.opx_pure ((iv 0)) rfl (fun _ => by kernel_rfl) ?_)
      refine Xg.ops_nil ?_
      refine Xg.at_seq ?_
      refine Xg.at_region ?_
      refine Xg.ops_op (by kernel_rfl) (Xg.opx_pure ((pv p 0)) rfl (fun _ => by kernel_rfl) ?_)
      refine Xg.ops_op (by kernel_rfl) (Xg.opx_pure ((iv id)) rfl (fun _ => by kernel_rfl) ?_)
      refine Xg.ops_op (by kernel_rfl) (Xg.opx_call1' [0, 1] [row p (80 : TypeId) [Value.slice ra r.length rc, Value.slice sa s.length sc], RR ra rc r, SP sa sc s] (fun _ => by kernel_rfl) (@hf ((Value.slice sa s.length sc))) (by kernel_rfl) (by kernel_rfl) (by kernel_rfl) ?_)
      refine Xg.ops_op (by kernel_rfl) (Xg.opx_pure ((iv (↑k : Int))) rfl (fun _ => by kernel_rfl) ?_)
      refine Xg.ops_nil ?_
      refine Xg.at_seq ?_
      refine Xg.at_seq ?_
      refine Xg.at_region ?_
      refine Xg.ops_op (by kernel_rfl) (Xg.opx_pure ((iv (↑k : Int))) rfl (fun _ => by kernel_rfl) ?_)
      refine Xg.ops_op (by kernel_rfl) (Xg.opx_pure (.bool (decide ((((↑k : Int)) : Int) < ((0 : Int))))) rfl (fun _ => by kernel_rfl) ?_)
      refine Xg.ops_nil ?_
      refine Xg.at_false (t := false) (by kernel_rfl) rfl ?_
      refine Xg.at_skip ?_
      refine Xg.at_seq ?_
      refine Xg.at_region ?_
      refine Xg.ops_op (by kernel_rfl) (Xg.opx_pure ((pv p 0)) rfl (fun _ => by kernel_rfl) ?_)
      refine Xg.ops_op (by kernel_rfl) (Xg.opx_pure ((pv p 0)) rfl (fun _ => by kernel_rfl) ?_)
      refine Xg.ops_op (by kernel_rfl) (Xg.opx_pure ((pv p 0)) rfl (fun _ => by kernel_rfl) ?_)
      refine Xg.ops_op (by kernel_rfl) (Xg.opx_load (b := p) (off := ((0 : Nat))) 0 (Value.slice ra r.length rc) rfl (by kernel_rfl) (by kernel_rfl) (by kernel_rfl) ?_)
      refine Xg.ops_op (by kernel_rfl) (Xg.opx_pure ((iv (↑k : Int))) rfl (fun _ => by kernel_rfl) ?_)
      refine Xg.ops_op (by kernel_rfl) (Xg.opx_pure ((Value.bool b)) rfl (fun _ => by kernel_rfl) ?_)
      refine Xg.ops_op (by kernel_rfl) (Xg.opx_ix_own (elem := 82) (kd := .i64) (e := ((↑k : Int))) 1 2 k (k * (2 : Nat)) rfl (by kernel_rfl) (by kernel_rfl) (by kernel_rfl) (by kernel_rfl) rfl (by omega) (by omega) ?_)
      refine Xg.ops_op (by kernel_rfl) (Xg.opx_pure ((Value.pointer (some (Addr.mk (blk ra) (k * (2 : Nat) + (1 : Nat)) none)))) rfl (fun _ => by kernel_rfl) ?_)
      refine Xg.ops_op (by kernel_rfl) (Xg.opx_store_own (a := ra) (off := (k * (2 : Nat) + (1 : Nat))) 1 (Value.bool b) (by kernel_rfl) rfl (by kernel_rfl) (by kernel_rfl) (by kernel_rfl) (by first | omega | (simp; done) | (simp; omega)) ?_)
      refine Xg.ops_nil ?_
      refine Xg.at_seq ?_
      refine Xg.at_region ?_
      refine Xg.ops_op (by kernel_rfl) (Xg.opx_pure ((iv 0)) rfl (fun _ => by kernel_rfl) ?_)
      refine Xg.ops_nil ?_
      refine Xg.at_ret_ps (v := (iv 0)) [0, 1, 2] [row p (80 : TypeId) [Value.slice ra r.length rc, Value.slice sa s.length sc], ownS (82 : Nat) (2 : Nat) (Value.slice ra r.length rc) r.length ((recs mc r).set (k * (2 : Nat) + (1 : Nat)) (Value.bool b)), SP sa sc s] Go.Proofs.Try.func34 (fun _ => by kernel_rfl) (by kernel_rfl) (by kernel_rfl) ?_
      refine ⟨((ra, rc, sa, sc)), trivial, by kernel_rfl, ?_⟩)
    simp only [RR, recsO, RH, List.length_set, hs]
theorem rend_d (p : Nat) (r : List (Int × Bool)) (s : List Int) (slot : Int) (hs8 : s.length ≤ 64) : Does Try.prog 36 [.pointer (some ⟨p, 0, none⟩), .int .i64 slot] [RefP p r s]
    (Ret (if slot < 0 ∨ (s.length : Int) ≤ slot ∨ s.getD slot.toNat 0 < 0 then .tuple #[.int .i64 0, .int .i64 131] else .tuple #[.int .i64 (s.getD slot.toNat 0), .int .i64 0]) [RefP p r (if slot < 0 ∨ (s.length : Int) ≤ slot ∨ s.getD slot.toNat 0 < 0 then s else s.set slot.toNat (-1))]) := by
  refine refR fun ra rc sa sc => ?_
  by_cases c1 : slot < 0
  · rw [if_pos (.inl c1), if_pos (.inl c1)]
    (focus
      refine Xg.spec_of Go.Proofs.Try.func36 rfl Go.Proofs.Try.ntmps36 fun g F => ?_)
    (focus
      refine Xg.at_seq ?_
      refine Xg.at_region ?_
      refine Xg.ops_op (by kernel_rfl) (Xg.opx_pure ((iv 0)) rfl (fun _ => by kernel_rfl) ?_)
      refine Xg.ops_op (by kernel_rfl) (Xg.opx_pure ((iv 0)) rfl (fun _ => by kernel_rfl) ?_)
      refine Xg.ops_nil ?_
      refine Xg.at_seq ?_
      refine Xg.at_seq ?_
      refine Xg.at_region ?_
      refine Xg.ops_op (by kernel_rfl) (Xg.opx_pure ((iv slot)) rfl (fun _ => by kernel_rfl) ?_)
      refine Xg.ops_op (by kernel_rfl) (Xg.opx_pure (.bool (decide ((slot : Int) < ((0 : Int))))) rfl (fun _ => by kernel_rfl) ?_)
      refine Xg.ops_op (by kernel_rfl) (Xg.opx_pure ((Value.bool (decide (slot < (0 : Int))))) rfl (fun _ => by kernel_rfl) ?_)
      refine Xg.ops_flag (j := 9) (c := (decide (slot < (0 : Int)))) (by kernel_rfl) (fun _ => ?_) (fun xh1 => absurd (of_decide_eq_false xh1) (by omega))
      refine Xg.ops_skip (by kernel_rfl) ?_
      refine Xg.ops_skip (by kernel_rfl) ?_
      refine Xg.ops_skip (by kernel_rfl) ?_
      refine Xg.ops_skip (by kernel_rfl) ?_
      refine Xg.ops_skip (by kernel_rfl) ?_
      refine Xg.ops_skip (by kernel_rfl) ?_
      refine Xg.ops_skip (by kernel_rfl) ?_
      refine Xg.ops_op (by kernel_rfl) (Xg.opx_pure ((Value.bool true)) rfl (fun _ => by kernel_rfl) ?_)
      refine Xg.ops_op (by kernel_rfl) (Xg.opx_pure ((Value.bool true)) rfl (fun _ => by kernel_rfl) ?_)
      refine Xg.ops_skip (by kernel_rfl) ?_
      refine Xg.ops_skip (by kernel_rfl) ?_
      refine Xg.ops_skip (by kernel_rfl) ?_
      refine Xg.ops_skip (by kernel_rfl) ?_
      refine Xg.ops_skip (by kernel_rfl) ?_
      refine Xg.ops_skip (by kernel_rfl) ?_
      refine Xg.ops_skip (by kernel_rfl) ?_
      refine Xg.ops_skip (by kernel_rfl) ?_
      refine Xg.ops_op (by kernel_rfl) (Xg.opx_pure ((Value.bool true)) rfl (fun _ => by kernel_rfl) ?_)
      refine Xg.ops_nil ?_
      refine Xg.at_true (t := true) (by kernel_rfl) rfl ?_
      refine Xg.at_seq ?_
      refine Xg.at_region ?_
      refine Xg.ops_op (by kernel_rfl) (Xg.opx_pure ((iv 0)) rfl (fun _ => by kernel_rfl) ?_)
      refine Xg.ops_op (by kernel_rfl) (Xg.opx_pure ((iv 131)) rfl (fun _ => by kernel_rfl) ?_)
      refine Xg.ops_nil ?_
      refine Xg.at_ret_ps (v := (Value.tuple #[iv 0, iv 131])) [0, 1, 2] [RH p ra r.length rc sa s.length sc, RR ra rc r, SP sa sc s] Go.Proofs.Try.func36 (fun _ => by kernel_rfl) (by kernel_rfl) (by kernel_rfl) ?_
      refine ⟨((ra, rc, sa, sc)), trivial, by kernel_rfl, by kernel_rfl⟩)
  by_cases c2 : (s.length : Int) ≤ slot
  · rw [if_pos (.inr (.inl c2)), if_pos (.inr (.inl c2))]
    (focus
      refine Xg.spec_of Go.Proofs.Try.func36 rfl Go.Proofs.Try.ntmps36 fun g F => ?_)
    (focus
      refine Xg.at_seq ?_
      refine Xg.at_region ?_
      refine Xg.ops_op (by kernel_rfl) (Xg.opx_pure ((iv 0)) rfl (fun _ => by kernel_rfl) ?_)
      refine Xg.ops_op (by kernel_rfl) (Xg.opx_pure ((iv 0)) rfl (fun _ => by kernel_rfl) ?_)
      refine Xg.ops_nil ?_
      refine Xg.at_seq ?_
      refine Xg.at_seq ?_
      refine Xg.at_region ?_
      refine Xg.ops_op (by kernel_rfl) (Xg.opx_pure ((iv slot)) rfl (fun _ => by kernel_rfl) ?_)
      refine Xg.ops_op (by kernel_rfl) (Xg.opx_pure (.bool (decide ((slot : Int) < ((0 : Int))))) rfl (fun _ => by kernel_rfl) ?_)
      refine Xg.ops_op (by kernel_rfl) (Xg.opx_pure ((Value.bool (decide (slot < (0 : Int))))) rfl (fun _ => by kernel_rfl) ?_)
      refine Xg.ops_flag (j := 9) (c := (decide (slot < (0 : Int)))) (by kernel_rfl) (fun xh1 => absurd (of_decide_eq_true xh1) (by omega)) (fun _ => ?_)
      refine Xg.ops_op (by kernel_rfl) (Xg.opx_pure ((iv slot)) rfl (fun _ => by kernel_rfl) ?_)
      refine Xg.ops_op (by kernel_rfl) (Xg.opx_pure ((pv p 0)) rfl (fun _ => by kernel_rfl) ?_)
      refine Xg.ops_op (by kernel_rfl) (Xg.opx_pure ((pv p 0)) rfl (fun _ => by kernel_rfl) ?_)
      refine Xg.ops_op (by kernel_rfl) (Xg.opx_pure ((pv p 1)) rfl (fun _ => by kernel_rfl) ?_)
      refine Xg.ops_op (by kernel_rfl) (Xg.opx_load (b := p) (off := ((1 : Nat))) 0 (Value.slice sa s.length sc) rfl (by kernel_rfl) (by kernel_rfl) (by kernel_rfl) ?_)
      refine Xg.ops_op (by kernel_rfl) (Xg.opx_pure ((iv (↑s.length : Int))) rfl (fun _ => by kernel_rfl) ?_)
      refine Xg.ops_op (by kernel_rfl) (Xg.opx_pure (.bool (decide ((slot : Int) ≥ ((↑s.length : Int))))) rfl (fun _ => by kernel_rfl) ?_)
      refine Xg.ops_flag (j := 16) (c := (decide (slot ≥ (↑s.length : Int)))) (by kernel_rfl) (fun _ => ?_) (fun xh1 => absurd (of_decide_eq_false xh1) (by omega))
      refine Xg.ops_op (by kernel_rfl) (Xg.opx_pure ((Value.bool true)) rfl (fun _ => by kernel_rfl) ?_)
      refine Xg.ops_op (by kernel_rfl) (Xg.opx_pure ((Value.bool true)) rfl (fun _ => by kernel_rfl) ?_)
      refine Xg.ops_skip (by kernel_rfl) ?_
      refine Xg.ops_skip (by kernel_rfl) ?_
      refine Xg.ops_skip (by kernel_rfl) ?_
      refine Xg.ops_skip (by kernel_rfl) ?_
      refine Xg.ops_skip (by kernel_rfl) ?_
      refine Xg.ops_skip (by kernel_rfl) ?_
      refine Xg.ops_skip (by kernel_rfl) ?_
      refine Xg.ops_skip (by kernel_rfl) ?_
      refine Xg.ops_op (by kernel_rfl) (Xg.opx_pure ((Value.bool true)) rfl (fun _ => by kernel_rfl) ?_)
      refine Xg.ops_nil ?_
      refine Xg.at_true (t := true) (by kernel_rfl) rfl ?_
      refine Xg.at_seq ?_
      refine Xg.at_region ?_
      refine Xg.ops_op (by kernel_rfl) (Xg.opx_pure ((iv 0)) rfl (fun _ => by kernel_rfl) ?_)
      refine Xg.ops_op (by kernel_rfl) (Xg.opx_pure ((iv 131)) rfl (fun _ => by kernel_rfl) ?_)
      refine Xg.ops_nil ?_
      refine Xg.at_ret_ps (v := (Value.tuple #[iv 0, iv 131])) [0, 1, 2] [RH p ra r.length rc sa s.length sc, RR ra rc r, SP sa sc s] Go.Proofs.Try.func36 (fun _ => by kernel_rfl) (by kernel_rfl) (by kernel_rfl) ?_
      refine ⟨((ra, rc, sa, sc)), trivial, by kernel_rfl, by kernel_rfl⟩)
  obtain ⟨i, rfl⟩ : ∃ i : Nat, slot = i := ⟨slot.toNat, by omega⟩
  rw [Int.toNat_natCast]
  by_cases c3 : s.getD i 0 < 0
  · rw [if_pos (.inr (.inr c3)), if_pos (.inr (.inr c3))]
    (focus
      refine Xg.spec_of Go.Proofs.Try.func36 rfl Go.Proofs.Try.ntmps36 fun g F => ?_)
    (focus
      refine Xg.at_seq ?_
      refine Xg.at_region ?_
      refine Xg.ops_op (by kernel_rfl) (Xg.opx_pure ((iv 0)) rfl (fun _ => by kernel_rfl) ?_)
      refine Xg.ops_op (by kernel_rfl) (Xg.opx_pure ((iv 0)) rfl (fun _ => by kernel_rfl) ?_)
      refine Xg.ops_nil ?_
      refine Xg.at_seq ?_
      refine Xg.at_seq ?_
      refine Xg.at_region ?_
      refine Xg.ops_op (by kernel_rfl) (Xg.opx_pure ((iv (↑i : Int))) rfl (fun _ => by kernel_rfl) ?_)
      refine Xg.ops_op (by kernel_rfl) (Xg.opx_pure (.bool (decide ((((↑i : Int)) : Int) < ((0 : Int))))) rfl (fun _ => by kernel_rfl) ?_)
      refine Xg.ops_op (by kernel_rfl) (Xg.opx_pure ((Value.bool (decide ((↑i : Int) < (0 : Int))))) rfl (fun _ => by kernel_rfl) ?_)
      refine Xg.ops_op (by kernel_rfl) (Xg.opx_pure ((iv (↑i : Int))) rfl (fun _ => by kernel_rfl) ?_)
      refine Xg.ops_op (by kernel_rfl) (Xg.opx_pure ((pv p 0)) rfl (fun _ => by kernel_rfl) ?_)
      refine Xg.ops_op (by kernel_rfl) (Xg.opx_pure ((pv p 0)) rfl (fun _ => by kernel_rfl) ?_)
      refine Xg.ops_op (by kernel_rfl) (Xg.opx_pure ((pv p 1)) rfl (fun _ => by kernel_rfl) ?_)
      refine Xg.ops_op (by kernel_rfl) (Xg.opx_load (b := p) (off := ((1 : Nat))) 0 (Value.slice sa s.length sc) rfl (by kernel_rfl) (by kernel_rfl) (by kernel_rfl) ?_)
      refine Xg.ops_op (by kernel_rfl) (Xg.opx_pure ((iv (↑s.length : Int))) rfl (fun _ => by kernel_rfl) ?_)
      refine Xg.ops_op (by kernel_rfl) (Xg.opx_pure (.bool (decide ((((↑i : Int)) : Int) ≥ ((↑s.length : Int))))) rfl (fun _ => by kernel_rfl) ?_)
      refine Xg.ops_flag (j := 9) (c := (decide ((↑i : Int) < (0 : Int)))) (by kernel_rfl) (fun xh1 => absurd (of_decide_eq_true xh1) (by omega)) (fun _ => ?_)
      refine Xg.ops_flag (j := 16) (c := (decide ((↑i : Int) ≥ (↑s.length : Int)))) (by kernel_rfl) (fun xh1 => absurd (of_decide_eq_true xh1) (by omega)) (fun _ => ?_)
      refine Xg.ops_op (by kernel_rfl) (Xg.opx_pure ((Value.bool false)) rfl (fun _ => by kernel_rfl) ?_)
      refine Xg.ops_op (by kernel_rfl) (Xg.opx_pure ((Value.bool false)) rfl (fun _ => by kernel_rfl) ?_)
      refine Xg.ops_op (by kernel_rfl) (Xg.opx_pure ((pv p 0)) rfl (fun _ => by kernel_rfl) ?_)
      refine Xg.ops_op (by kernel_rfl) (Xg.opx_pure ((pv p 0)) rfl (fun _ => by kernel_rfl) ?_)
      refine Xg.ops_op (by kernel_rfl) (Xg.opx_pure ((pv p 1)) rfl (fun _ => by kernel_rfl) ?_)
      refine Xg.ops_op (by kernel_rfl) (Xg.opx_load (b := p) (off := ((1 : Nat))) 0 (Value.slice sa s.length sc) rfl (by kernel_rfl) (by kernel_rfl) (by kernel_rfl) ?_)
      refine Xg.ops_op (by kernel_rfl) (Xg.opx_pure ((iv (↑i : Int))) rfl (fun _ => by kernel_rfl) ?_)
      refine Xg.ops_op (by kernel_rfl) (Xg.opx_ix_own (elem := 3) (kd := .i64) (e := ((↑i : Int))) 2 1 i i rfl (by kernel_rfl) (by kernel_rfl) (by kernel_rfl) (by kernel_rfl) rfl (by omega) (by omega) ?_)
      refine Xg.ops_op (by kernel_rfl) (Xg.opx_load_own (a := sa) (off := i) 2 (iv (s.getD i (0 : Int))) rfl (by kernel_rfl) (Xg.get_ints (by omega)) (by kernel_rfl) ?_)
      refine Xg.ops_op (by kernel_rfl) (Xg.opx_pure (.bool (decide (((s.getD i (0 : Int)) : Int) < ((0 : Int))))) rfl (fun _ => by kernel_rfl) ?_)
      refine Xg.ops_flag (j := 26) (c := (decide (s.getD i (0 : Int) < (0 : Int)))) (by kernel_rfl) (fun _ => ?_) (fun xh1 => absurd (of_decide_eq_false xh1) (by omega))
      refine Xg.ops_op (by kernel_rfl) (Xg.opx_pure ((Value.bool true)) rfl (fun _ => by kernel_rfl) ?_)
      refine Xg.ops_nil ?_
      refine Xg.at_true (t := true) (by kernel_rfl) rfl ?_
      refine Xg.at_seq ?_
      refine Xg.at_region ?_
      refine Xg.ops_op (by kernel_rfl) (Xg.opx_pure ((iv 0)) rfl (fun _ => by kernel_rfl) ?_)
      refine Xg.ops_op (by kernel_rfl) (Xg.opx_pure ((iv 131)) rfl (fun _ => by kernel_rfl) ?_)
      refine Xg.ops_nil ?_
      refine Xg.at_ret_ps (v := (Value.tuple #[iv 0, iv 131])) [0, 1, 2] [RH p ra r.length rc sa s.length sc, RR ra rc r, SP sa sc s] Go.Proofs.Try.func36 (fun _ => by kernel_rfl) (by kernel_rfl) (by kernel_rfl) ?_
      refine ⟨((ra, rc, sa, sc)), trivial, by kernel_rfl, by kernel_rfl⟩)
  · rw [if_neg (by omega), if_neg (by omega)]
    (focus
      refine Xg.spec_of Go.Proofs.Try.func36 rfl Go.Proofs.Try.ntmps36 fun g F => ?_)
    refine Xg.at_off 2 rfl (by omega) fun hoff => ?_
    (focus
      refine Xg.at_seq ?_
      refine Xg.at_region ?_
      refine Xg.ops_op (by kernel_rfl) (Xg.opx_pure ((iv 0)) rfl (fun _ => by kernel_rfl) ?_)
      refine Xg.ops_op (by kernel_rfl) (Xg.opx_pure ((iv 0)) rfl (fun _ => by kernel_rfl) ?_)
      refine Xg.ops_nil ?_
      refine Xg.at_seq ?_
      refine Xg.at_seq ?_
      refine Xg.at_region ?_
      refine Xg.ops_op (by kernel_rfl) (Xg.opx_pure ((iv (↑i : Int))) rfl (fun _ => by kernel_rfl) ?_)
      refine Xg.ops_op (by kernel_rfl) (Xg.opx_pure (.bool (decide ((((↑i : Int)) : Int) < ((0 : Int))))) rfl (fun _ => by kernel_rfl) ?_)
      refine Xg.ops_op (by kernel_rfl) (Xg.opx_pure ((Value.bool (decide ((↑i : Int) < (0 : Int))))) rfl (fun _ => by kernel_rfl) ?_)
      refine Xg.ops_op (by kernel_rfl) (Xg.opx_pure ((iv (↑i : Int))) rfl (fun _ => by kernel_rfl) ?_)
      refine Xg.ops_op (by kernel_rfl) (Xg.opx_pure ((pv p 0)) rfl (fun _ => by kernel_rfl) ?_)
      refine Xg.ops_op (by kernel_rfl) (Xg.opx_pure ((pv p 0)) rfl (fun _ => by kernel_rfl) ?_)
      refine Xg.ops_op (by kernel_rfl) (Xg.opx_pure ((pv p 1)) rfl (fun _ => by kernel_rfl) ?_)
      refine Xg.ops_op (by kernel_rfl) (Xg.opx_load (b := p) (off := ((1 : Nat))) 0 (Value.slice sa s.length sc) rfl (by kernel_rfl) (by kernel_rfl) (by kernel_rfl) ?_)
      refine Xg.ops_op (by kernel_rfl) (Xg.opx_pure ((iv (↑s.length : Int))) rfl (fun _ => by kernel_rfl) ?_)
      refine Xg.ops_op (by kernel_rfl) (Xg.opx_pure (.bool (decide ((((↑i : Int)) : Int) ≥ ((↑s.length : Int))))) rfl (fun _ => by kernel_rfl) ?_)
      refine Xg.ops_flag (j := 9) (c := (decide ((↑i : Int) < (0 : Int)))) (by kernel_rfl) (fun xh1 => absurd (of_decide_eq_true xh1) (by omega)) (fun _ => ?_)
      refine Xg.ops_flag (j := 16) (c := (decide ((↑i : Int) ≥ (↑s.length : Int)))) (by kernel_rfl) (fun xh1 => absurd (of_decide_eq_true xh1) (by omega)) (fun _ => ?_)
      refine Xg.ops_op (by kernel_rfl) (Xg.opx_pure ((Value.bool false)) rfl (fun _ => by kernel_rfl) ?_)
      refine Xg.ops_op (by kernel_rfl) (Xg.opx_pure ((Value.bool false)) rfl (fun _ => by kernel_rfl) ?_)
      refine Xg.ops_op (by kernel_rfl) (Xg.opx_pure ((pv p 0)) rfl (fun _ => by kernel_rfl) ?_)
      refine Xg.ops_op (by kernel_rfl) (Xg.opx_pure ((pv p 0)) rfl (fun _ => by kernel_rfl) ?_)
      refine Xg.ops_op (by kernel_rfl) (Xg.opx_pure ((pv p 1)) rfl (fun _ => by kernel_rfl) ?_)
      refine Xg.ops_op (by kernel_rfl) (Xg.opx_load (b := p) (off := ((1 : Nat))) 0 (Value.slice sa s.length sc) rfl (by kernel_rfl) (by kernel_rfl) (by kernel_rfl) ?_)
      refine Xg.ops_op (by kernel_rfl) (Xg.opx_pure ((iv (↑i : Int))) rfl (fun _ => by kernel_rfl) ?_)
      refine Xg.ops_op (by kernel_rfl) (Xg.opx_ix_own (elem := 3) (kd := .i64) (e := ((↑i : Int))) 2 1 i i rfl (by kernel_rfl) (by kernel_rfl) (by kernel_rfl) (by kernel_rfl) rfl (by omega) (by omega) ?_)
      refine Xg.ops_op (by kernel_rfl) (Xg.opx_load_own (a := sa) (off := i) 2 (iv (s.getD i (0 : Int))) rfl (by kernel_rfl) (Xg.get_ints (by omega)) (by kernel_rfl) ?_)
      refine Xg.ops_op (by kernel_rfl) (Xg.opx_pure (.bool (decide (((s.getD i (0 : Int)) : Int) < ((0 : Int))))) rfl (fun _ => by kernel_rfl) ?_)
      refine Xg.ops_flag (j := 26) (c := (decide (s.getD i (0 : Int) < (0 : Int)))) (by kernel_rfl) (fun xh1 => absurd (of_decide_eq_true xh1) (by omega)) (fun _ => ?_)
      refine Xg.ops_op (by kernel_rfl) (Xg.opx_pure ((Value.bool false)) rfl (fun _ => by kernel_rfl) ?_)
      refine Xg.ops_nil ?_
      refine Xg.at_false (t := false) (by kernel_rfl) rfl ?_
      refine Xg.at_skip ?_
      refine Xg.at_seq ?_
      refine Xg.at_region ?_
      refine Xg.ops_op (by kernel_rfl) (Xg.opx_pure ((pv p 0)) rfl (fun _ => by kernel_rfl) ?_)
      refine Xg.ops_op (by kernel_rfl) (Xg.opx_pure ((pv p 0)) rfl (fun _ => by kernel_rfl) ?_)
      refine Xg.ops_op (by kernel_rfl) (Xg.opx_pure ((pv p 1)) rfl (fun _ => by kernel_rfl) ?_)
      refine Xg.ops_op (by kernel_rfl) (Xg.opx_load (b := p) (off := ((1 : Nat))) 0 (Value.slice sa s.length sc) rfl (by kernel_rfl) (by kernel_rfl) (by kernel_rfl) ?_)
      refine Xg.ops_op (by kernel_rfl) (Xg.opx_pure ((iv (↑i : Int))) rfl (fun _ => by kernel_rfl) ?_)
      refine Xg.ops_op (by kernel_rfl) (Xg.opx_ix_own (elem := 3) (kd := .i64) (e := ((↑i : Int))) 2 1 i i rfl (by kernel_rfl) (by kernel_rfl) (by kernel_rfl) (by kernel_rfl) rfl (by omega) (by omega) ?_)
      refine Xg.ops_op (by kernel_rfl) (Xg.opx_load_own (a := sa) (off := i) 2 (iv (s.getD i (0 : Int))) rfl (by kernel_rfl) (Xg.get_ints (by omega)) (by kernel_rfl) ?_)
      refine Xg.ops_op (by kernel_rfl) (Xg.opx_pure ((iv (s.getD i (0 : Int)))) rfl (fun _ => by kernel_rfl) ?_)
      refine Xg.ops_nil ?_
      refine Xg.at_seq ?_
      refine Xg.at_region ?_
      refine Xg.ops_op (by kernel_rfl) (Xg.opx_pure ((pv p 0)) rfl (fun _ => by kernel_rfl) ?_)
      refine Xg.ops_op (by kernel_rfl) (Xg.opx_pure ((pv p 0)) rfl (fun _ => by kernel_rfl) ?_)
      refine Xg.ops_op (by kernel_rfl) (Xg.opx_pure ((pv p 1)) rfl (fun _ => by kernel_rfl) ?_)
      refine Xg.ops_op (by kernel_rfl) (Xg.opx_load (b := p) (off := ((1 : Nat))) 0 (Value.slice sa s.length sc) rfl (by kernel_rfl) (by kernel_rfl) (by kernel_rfl) ?_)
      refine Xg.ops_op (by kernel_rfl) (Xg.opx_pure ((iv (↑i : Int))) rfl (fun _ => by kernel_rfl) ?_)
      refine Xg.ops_op (by kernel_rfl) (Xg.opx_ix_own (elem := 3) (kd := .i64) (e := ((↑i : Int))) 2 1 i i rfl (by kernel_rfl) (by kernel_rfl) (by kernel_rfl) (by kernel_rfl) rfl (by omega) (by omega) ?_)
      refine Xg.ops_op (by kernel_rfl) (Xg.opx_store_own_i (a := sa) (off := i) (kd := .i64) (xs := s) (e := ((-1 : Int))) 2 (by kernel_rfl) rfl (by kernel_rfl) (by kernel_rfl) (by first | omega | (simp only [List.length_set]; omega)) ?_)
      refine Xg.ops_nil ?_
      refine Xg.at_seq ?_
      refine Xg.at_region ?_
      refine Xg.ops_op (by kernel_rfl) (Xg.opx_pure ((iv (s.getD i (0 : Int)))) rfl (fun _ => by kernel_rfl) ?_)
      refine Xg.ops_op (by kernel_rfl) (Xg.opx_pure ((iv (s.getD i (0 : Int)))) rfl (fun _ => by kernel_rfl) ?_)
      refine Xg.ops_op (by kernel_rfl) (Xg.opx_pure ((iv 0)) rfl (fun _ => by kernel_rfl) ?_)
      refine Xg.ops_nil ?_
      refine Xg.at_ret_ps (v := (Value.tuple #[iv (s.getD i (0 : Int)), iv 0])) [0, 1, 2] [RH p ra r.length rc sa s.length sc, RR ra rc r, ownS (3 : TypeId) (1 : Nat) (Value.slice sa s.length sc) s.length (List.map (Value.int IntKind.i64) (s.set i (-1 : Int)))] Go.Proofs.Try.func36 (fun _ => by kernel_rfl) (by kernel_rfl) (by kernel_rfl) ?_
      refine ⟨((ra, rc, sa, sc)), trivial, by kernel_rfl, ?_⟩)
    simp only [RH, SP, ints, List.length_set]
theorem rround_d (p : Nat) (r : List (Int × Bool)) (s : List Int) (h64 : r.length ≤ 64) : Does Try.prog 37 [.pointer (some ⟨p, 0, none⟩)] [RefP p r s]
    (RetE (fun x : Option Addr × Nat => True) (fun x => .slice x.1 (r.map (·.1)).length x.2) (fun x => [RefP p r s, SP x.1 x.2 (r.map (·.1))])) := by
  refine refE (QS := fun x : Option Addr × Nat => [SP x.1 x.2 (r.map (·.1))]) fun ra rc sa sc => ?_
  (focus
    refine Xg.spec_of Go.Proofs.Try.func37 rfl Go.Proofs.Try.ntmps37 fun g F => ?_)
  refine Xg.at_nil_ints 3 .i64 ?_
  (focus
    refine Xg.at_seq ?_
    refine Xg.at_region ?_
    refine Xg.ops_op (by kernel_rfl) (Xg.opx_pure ((Value.slice none (0 : Nat) (0 : Nat))) rfl (fun _ => by kernel_rfl) ?_)
    refine Xg.ops_nil ?_
    refine Xg.at_seq ?_
    refine Xg.at_region ?_
    refine Xg.ops_op (by kernel_rfl) (Xg.opx_pure ((Value.slice none (0 : Nat) (0 : Nat))) rfl (fun _ => by kernel_rfl) ?_)
    refine Xg.ops_nil ?_
    refine Xg.at_seq ?_
    refine Xg.at_seq ?_
    refine Xg.at_region ?_
    refine Xg.ops_op (by kernel_rfl) (Xg.opx_pure ((iv 0)) rfl (fun _ => by kernel_rfl) ?_)
    refine Xg.ops_nil ?_
    refine Xg.at_block ?_)
  (focus
    refine Xg.at_rounds_inv (α := (Nat × Option Addr × Nat × List Int) × (Nat → Value)) (fun x => ((fun y => y.1 ≤ r.length ∧ y.2.2.2 = (r.take y.1).map (·.1)) : (Nat × Option Addr × Nat × List Int) → Prop) x.1) (fun x => ((fun y => r.length - y.1) : (Nat × Option Addr × Nat × List Int) → Nat) x.1) (fun x => Xg.headT [pv p 0, tu, Value.slice none (0 : Nat) (0 : Nat), Value.slice none (0 : Nat) (0 : Nat), iv 0, tu, tu, tu, tu, tu, tu, tu, tu, tu, tu, tu, tu, tu, tu, tu, tu, tu, tu, tu, tu, tu] [5, 6, 7, 8, 9, 10, 11, 12, 13, 14, 15, 16, 17, 18, 19, 20, 21, 22, 23, 24] (((fun y => [(3, .slice y.2.1 y.2.2.2.length y.2.2.1), (4, .int .i64 (y.1 : Nat))]) : (Nat × Option Addr × Nat × List Int) → List (Nat × Go.Value)) x.1) x.2) (fun x => ((fun y => [SP y.2.1 y.2.2.1 y.2.2.2, RH p ra r.length rc sa s.length sc, RR ra rc r, SP sa sc s]) : (Nat × Option Addr × Nat × List Int) → List Go.Sl.HP) x.1) (((0, none, 0, [])), fun j9 => ([pv p 0, tu, Value.slice none (0 : Nat) (0 : Nat), Value.slice none (0 : Nat) (0 : Nat), iv 0, tu, tu, tu, tu, tu, tu, tu, tu, tu, tu, tu, tu, tu, tu, tu, tu, tu, tu, tu, tu, tu] : List Value).getD j9 undef) (by kernel_rfl) (by kernel_rfl) ?_ ?_)
  · exact ⟨Nat.zero_le _, rfl⟩
  rintro ⟨⟨i, oa, oc, o⟩, J⟩ hi ih
  obtain ⟨hi, ho⟩ := hi
  dsimp only at hi ho
  (focus
    refine Xg.At.same (T' := [pv p 0, tu, Value.slice none (0 : Nat) (0 : Nat), Value.slice oa o.length oc, iv (↑i : Int), J 5, J 6, J 7, J 8, J 9, J 10, J 11, J 12, J 13, J 14, J 15, J 16, J 17, J 18, J 19, J 20, J 21, J 22, J 23, J 24, tu]) (L' := [SP ((i, oa, oc, o), J).fst.snd.fst ((i, oa, oc, o), J).fst.snd.snd.fst ((i, oa, oc, o), J).fst.snd.snd.snd, RH p ra r.length rc sa s.length sc, RR ra rc r, SP sa sc s]) (by kernel_rfl) rfl ?_)
  have hol : o.length = i := by rw [ho, List.length_map, List.length_take]; omega
  by_cases hlt : i < r.length
  · have e1 : (r.take (i + 1)).map (·.1) = o ++ [(r.getD i default).1] := by
      have e0 : r.take (i + 1) = r.take i ++ [r.getD i default] := by
        rw [List.take_add_one, List.getElem?_eq_getElem hlt, List.getD_eq_getElem?_getD, List.getElem?_eq_getElem hlt]; rfl
      rw [ho, e0, List.map_append]; rfl
    (focus
      refine Xg.at_seq ?_
      refine Xg.at_seq ?_
      refine Xg.at_region ?_
      refine Xg.ops_op (by kernel_rfl) (Xg.opx_pure ((iv (↑i : Int))) rfl (fun _ => by kernel_rfl) ?_)
      refine Xg.ops_op (by kernel_rfl) (Xg.opx_pure ((pv p 0)) rfl (fun _ => by kernel_rfl) ?_)
      refine Xg.ops_op (by kernel_rfl) (Xg.opx_pure ((pv p 0)) rfl (fun _ => by kernel_rfl) ?_)
      refine Xg.ops_op (by kernel_rfl) (Xg.opx_pure ((pv p 0)) rfl (fun _ => by kernel_rfl) ?_)
      refine Xg.ops_op (by kernel_rfl) (Xg.opx_load (b := p) (off := ((0 : Nat))) 1 (Value.slice ra r.length rc) rfl (by kernel_rfl) (by kernel_rfl) (by kernel_rfl) ?_)
      refine Xg.ops_op (by kernel_rfl) (Xg.opx_pure ((iv (↑r.length : Int))) rfl (fun _ => by kernel_rfl) ?_)
      refine Xg.ops_op (by kernel_rfl) (Xg.opx_pure (.bool (decide ((((↑i : Int)) : Int) < ((↑r.length : Int))))) rfl (fun _ => by kernel_rfl) ?_)
      refine Xg.ops_nil ?_
      refine Xg.at_true (t := decide (((↑i : Int) < (↑r.length : Int)))) (by kernel_rfl) (decide_eq_true (by omega)) ?_
      refine Xg.at_skip ?_
      refine Xg.at_seq ?_
      refine Xg.at_block ?_
      refine Xg.at_region ?_
      refine Xg.ops_op (by kernel_rfl) (Xg.opx_pure ((Value.slice oa o.length oc)) rfl (fun _ => by kernel_rfl) ?_)
      refine Xg.ops_op (by kernel_rfl) (Xg.opx_pure ((pv p 0)) rfl (fun _ => by kernel_rfl) ?_)
      refine Xg.ops_op (by kernel_rfl) (Xg.opx_pure ((pv p 0)) rfl (fun _ => by kernel_rfl) ?_)
      refine Xg.ops_op (by kernel_rfl) (Xg.opx_pure ((pv p 0)) rfl (fun _ => by kernel_rfl) ?_)
      refine Xg.ops_op (by kernel_rfl) (Xg.opx_load (b := p) (off := ((0 : Nat))) 1 (Value.slice ra r.length rc) rfl (by kernel_rfl) (by kernel_rfl) (by kernel_rfl) ?_)
      refine Xg.ops_op (by kernel_rfl) (Xg.opx_pure ((iv (↑i : Int))) rfl (fun _ => by kernel_rfl) ?_)
      refine Xg.ops_op (by kernel_rfl) (Xg.opx_ix_own (elem := 82) (kd := .i64) (e := ((↑i : Int))) 2 2 i (i * (2 : Nat)) rfl (by kernel_rfl) (by kernel_rfl) (by kernel_rfl) (by kernel_rfl) rfl (by omega) (by omega) ?_)
      refine Xg.ops_op (by kernel_rfl) (Xg.opx_pure ((Value.pointer (some (Addr.mk (blk ra) (i * (2 : Nat)) none)))) rfl (fun _ => by kernel_rfl) ?_)
      refine Xg.ops_op (by kernel_rfl) (Xg.opx_load_own (a := ra) (off := (i * (2 : Nat))) 2 (iv (r.getD i default).fst) rfl (by kernel_rfl) (Xg.get_recs' (wd := 2) (fun _ => rfl) default i 0 (by omega) (by decide) (by omega) (by kernel_rfl)) (by kernel_rfl) ?_)
      refine Xg.ops_op (by kernel_rfl) (Xg.opx_bs (elem := 3) 1 [iv (r.getD i default).fst] [iv (r.getD i default).fst] (by kernel_rfl) (by kernel_rfl) (by decide) rfl (by kernel_rfl) (by kernel_rfl) (by kernel_rfl) (by kernel_rfl) fun xb1 => ?_)
      refine Xg.ops_op (by kernel_rfl) (Xg.opx_append_ints (kd := .i64) (yv := (Value.slice (some (Addr.mk xb1 (0 : Nat) none)) (1 : Nat) (1 : Nat))) (m := ((1 : Nat))) (xs := (((i, oa, oc, o), J).fst.snd.snd.snd)) (elem := 3) 1 8 [(r.getD i default).fst] rfl (by kernel_rfl) (by kernel_rfl) (by kernel_rfl) (by kernel_rfl) (by first | rfl | assumption | omega | (simp; done) | (simp; omega)) (fun _ hS => Xg.row_rd hS 0 rfl (by kernel_rfl)) (by first | omega | (simp only [List.length_nil, List.length_cons]; omega) | (simp; omega)) (by first | omega | (simp only [List.length_nil, List.length_cons]; omega) | (simp; omega)) fun xa1 xc1 => ?_)
      have xl1 : ((((i, oa, oc, o), J).fst.snd.snd.snd) ++ [(r.getD i default).fst] : List Int).length = ((((i, oa, oc, o), J).fst.snd.snd.snd) : List Int).length + ((1 : Nat)) := by first | (simp; done) | (simp; omega)
      refine Xg.ops_op (by kernel_rfl) (Xg.opx_pure ((Value.slice xa1 (o ++ [(r.getD i default).fst]).length xc1)) rfl (fun _ => by kernel_rfl) ?_)
      refine Xg.ops_nil ?_
      refine Xg.at_inBlock ?_
      refine Xg.at_region ?_
      refine Xg.ops_op (by kernel_rfl) (Xg.opx_pure ((iv (↑i : Int))) rfl (fun _ => by kernel_rfl) ?_)
      refine Xg.ops_op (by kernel_rfl) (Xg.opx_int .i64 (IntKind.wrap .i64 (((↑i : Int) + (1 : Int)))) rfl (fun _ => by kernel_rfl) (Xg.wrap_i64_in (by omega)) ?_)
      refine Xg.ops_op (by kernel_rfl) (Xg.opx_pure ((iv ((↑i : Int) + (1 : Int)))) rfl (fun _ => by kernel_rfl) ?_)
      refine Xg.ops_nil ?_
      refine Xg.at_inLoop ?_)
    (focus
      refine Xg.at_keep [1, 2, 3, 4] (by kernel_rfl) ?_
      refine Xs.same ?_ (fun J9 => ih (((i + 1, xa1, xc1, o ++ [(r.getD i default).1])), J9) ?_ ?_) (by kernel_rfl))
    · rfl
    · exact ⟨hlt, e1.symm⟩
    · dsimp only; omega
  · obtain rfl : i = r.length := by omega
    clear ih
    rw [List.take_length] at ho
    subst ho
    (focus
      refine Xg.at_seq ?_
      refine Xg.at_seq ?_
      refine Xg.at_region ?_
      refine Xg.ops_op (by kernel_rfl) (Xg.opx_pure ((iv (↑r.length : Int))) rfl (fun _ => by kernel_rfl) ?_)
      refine Xg.ops_op (by kernel_rfl) (Xg.opx_pure ((pv p 0)) rfl (fun _ => by kernel_rfl) ?_)
      refine Xg.ops_op (by kernel_rfl) (Xg.opx_pure ((pv p 0)) rfl (fun _ => by kernel_rfl) ?_)
      refine Xg.ops_op (by kernel_rfl) (Xg.opx_pure ((pv p 0)) rfl (fun _ => by kernel_rfl) ?_)
      refine Xg.ops_op (by kernel_rfl) (Xg.opx_load (b := p) (off := ((0 : Nat))) 1 (Value.slice ra r.length rc) rfl (by kernel_rfl) (by kernel_rfl) (by kernel_rfl) ?_)
      refine Xg.ops_op (by kernel_rfl) (Xg.opx_pure ((iv (↑r.length : Int))) rfl (fun _ => by kernel_rfl) ?_)
      refine Xg.ops_op (by kernel_rfl) (Xg.opx_pure (.bool (decide ((((↑r.length : Int)) : Int) < ((↑r.length : Int))))) rfl (fun _ => by kernel_rfl) ?_)
      refine Xg.ops_nil ?_
      refine Xg.at_false (t := decide (((↑r.length : Int) < (↑r.length : Int)))) (by kernel_rfl) (decide_eq_false (by omega)) ?_
      refine Xg.at_exit rfl ?_
      refine Xg.at_seq ?_
      refine Xg.at_region ?_
      refine Xg.ops_op (by kernel_rfl) (Xg.opx_pure ((Value.slice oa (List.map (fun (x : Int × Bool) => x.fst) r).length oc)) rfl (fun _ => by kernel_rfl) ?_)
      refine Xg.ops_op (by kernel_rfl) (Xg.opx_pure ((Value.slice oa (List.map (fun (x : Int × Bool) => x.fst) r).length oc)) rfl (fun _ => by kernel_rfl) ?_)
      refine Xg.ops_nil ?_
      refine Xg.at_ret_ps (v := (Value.slice oa (List.map (fun (x : Int × Bool) => x.fst) r).length oc)) [1, 2, 3, 0] [RH p ra r.length rc sa s.length sc, RR ra rc r, SP sa sc s, SP oa oc (List.map (fun (x : Int × Bool) => x.fst) r)] Go.Proofs.Try.func37 (fun _ => by kernel_rfl) (by kernel_rfl) (by kernel_rfl) ?_
      refine ⟨(((ra, rc, sa, sc), oa, oc)), trivial, by kernel_rfl, by kernel_rfl⟩)
end Go.Proofs.Ytijjficnhpokdaa

/- The sched law's reference: Begin; New refused. -/
namespace Go.Proofs.Ytijjficnhpokdaa
open Go.Sl Go.Xg
set_option linter.unusedVariables false
set_option linter.unusedSimpArgs false
set_option linter.unusedSectionVars false
set_option linter.unnecessarySimpa false
set_option maxHeartbeats 4000000
set_option maxRecDepth 100000

theorem rbegin_d (p : Nat) (r : List (Int × Bool)) (s : List Int) (slot : Int) (h64 : r.length ≤ 64) (hs8 : s.length ≤ 64) : Does Try.prog 35 [.pointer (some ⟨p, 0, none⟩), .int .i64 slot] [RefP p r s]
    (Ret (begV r s slot) [RefP p (begR r s slot) (begS r s slot)]) := by
  refine refR fun ra rc sa sc => ?_
  by_cases c1 : slot < 0
  · unfold begV begR begS
    rw [if_pos (.inl c1), if_neg (by omega), if_neg (by omega)]
    (focus
      refine Xg.spec_of Go.Proofs.Try.func35 rfl Go.Proofs.Try.ntmps35 fun g F => ?_)
    (focus
      refine Xg.at_seq ?_
      refine Xg.at_region ?_
      refine Xg.ops_op (by kernel_rfl) (Xg.opx_pure ((iv 0)) rfl (fun _ => by kernel_rfl) ?_)
      refine Xg.ops_op (by kernel_rfl) (Xg.opx_pure ((iv 0)) rfl (fun _ => by kernel_rfl) ?_)
      refine Xg.ops_nil ?_
      refine Xg.at_seq ?_
      refine Xg.at_seq ?_
      refine Xg.at_region ?_
      refine Xg.ops_op (by kernel_rfl) (Xg.opx_pure ((iv slot)) rfl (fun _ => by kernel_rfl) ?_)
      refine Xg.ops_op (by kernel_rfl) (Xg.opx_pure (.bool (decide ((slot : Int) < ((0 : Int))))) rfl (fun _ => by kernel_rfl) ?_)
      refine Xg.ops_op (by kernel_rfl) (Xg.opx_pure ((Value.bool (decide (slot < (0 : Int))))) rfl (fun _ => by kernel_rfl) ?_)
      refine Xg.ops_flag (j := 11) (c := (decide (slot < (0 : Int)))) (by kernel_rfl) (fun _ => ?_) (fun xh1 => absurd (of_decide_eq_false xh1) (by omega))
      refine Xg.ops_skip (by kernel_rfl) ?_
      refine Xg.ops_skip (by kernel_rfl) ?_
      refine Xg.ops_skip (by kernel_rfl) ?_
      refine Xg.ops_skip (by kernel_rfl) ?_
      refine Xg.ops_skip (by kernel_rfl) ?_
      refine Xg.ops_skip (by kernel_rfl) ?_
      refine Xg.ops_skip (by kernel_rfl) ?_
      refine Xg.ops_op (by kernel_rfl) (Xg.opx_pure ((Value.bool true)) rfl (fun _ => by kernel_rfl) ?_)
      refine Xg.ops_op (by kernel_rfl) (Xg.opx_pure ((Value.bool true)) rfl (fun _ => by kernel_rfl) ?_)
      refine Xg.ops_skip (by kernel_rfl) ?_
      refine Xg.ops_skip (by kernel_rfl) ?_
      refine Xg.ops_skip (by kernel_rfl) ?_
      refine Xg.ops_skip (by kernel_rfl) ?_
      refine Xg.ops_skip (by kernel_rfl) ?_
      refine Xg.ops_skip (by kernel_rfl) ?_
      refine Xg.ops_skip (by kernel_rfl) ?_
      refine Xg.ops_skip (by kernel_rfl) ?_
      refine Xg.ops_op (by kernel_rfl) (Xg.opx_pure ((Value.bool true)) rfl (fun _ => by kernel_rfl) ?_)
      refine Xg.ops_nil ?_
      refine Xg.at_true (t := true) (by kernel_rfl) rfl ?_
      refine Xg.at_seq ?_
      refine Xg.at_region ?_
      refine Xg.ops_op (by kernel_rfl) (Xg.opx_pure ((iv 0)) rfl (fun _ => by kernel_rfl) ?_)
      refine Xg.ops_op (by kernel_rfl) (Xg.opx_pure ((iv 131)) rfl (fun _ => by kernel_rfl) ?_)
      refine Xg.ops_nil ?_
      refine Xg.at_ret_ps (v := (Value.tuple #[iv 0, iv 131])) [0, 1, 2] [RH p ra r.length rc sa s.length sc, RR ra rc r, SP sa sc s] Go.Proofs.Try.func35 (fun _ => by kernel_rfl) (by kernel_rfl) (by kernel_rfl) ?_
      refine ⟨((ra, rc, sa, sc)), trivial, by kernel_rfl, by kernel_rfl⟩)
  by_cases c2 : (s.length : Int) ≤ slot
  · unfold begV begR begS
    rw [if_pos (.inr (.inl c2)), if_neg (by omega), if_neg (by omega)]
    (focus
      refine Xg.spec_of Go.Proofs.Try.func35 rfl Go.Proofs.Try.ntmps35 fun g F => ?_)
    (focus
      refine Xg.at_seq ?_
      refine Xg.at_region ?_
      refine Xg.ops_op (by kernel_rfl) (Xg.opx_pure ((iv 0)) rfl (fun _ => by kernel_rfl) ?_)
      refine Xg.ops_op (by kernel_rfl) (Xg.opx_pure ((iv 0)) rfl (fun _ => by kernel_rfl) ?_)
      refine Xg.ops_nil ?_
      refine Xg.at_seq ?_
      refine Xg.at_seq ?_
      refine Xg.at_region ?_
      refine Xg.ops_op (by kernel_rfl) (Xg.opx_pure ((iv slot)) rfl (fun _ => by kernel_rfl) ?_)
      refine Xg.ops_op (by kernel_rfl) (Xg.opx_pure (.bool (decide ((slot : Int) < ((0 : Int))))) rfl (fun _ => by kernel_rfl) ?_)
      refine Xg.ops_op (by kernel_rfl) (Xg.opx_pure ((Value.bool (decide (slot < (0 : Int))))) rfl (fun _ => by kernel_rfl) ?_)
      refine Xg.ops_flag (j := 11) (c := (decide (slot < (0 : Int)))) (by kernel_rfl) (fun xh1 => absurd (of_decide_eq_true xh1) (by omega)) (fun _ => ?_)
      refine Xg.ops_op (by kernel_rfl) (Xg.opx_pure ((iv slot)) rfl (fun _ => by kernel_rfl) ?_)
      refine Xg.ops_op (by kernel_rfl) (Xg.opx_pure ((pv p 0)) rfl (fun _ => by kernel_rfl) ?_)
      refine Xg.ops_op (by kernel_rfl) (Xg.opx_pure ((pv p 0)) rfl (fun _ => by kernel_rfl) ?_)
      refine Xg.ops_op (by kernel_rfl) (Xg.opx_pure ((pv p 1)) rfl (fun _ => by kernel_rfl) ?_)
      refine Xg.ops_op (by kernel_rfl) (Xg.opx_load (b := p) (off := ((1 : Nat))) 0 (Value.slice sa s.length sc) rfl (by kernel_rfl) (by kernel_rfl) (by kernel_rfl) ?_)
      refine Xg.ops_op (by kernel_rfl) (Xg.opx_pure ((iv (↑s.length : Int))) rfl (fun _ => by kernel_rfl) ?_)
      refine Xg.ops_op (by kernel_rfl) (Xg.opx_pure (.bool (decide ((slot : Int) ≥ ((↑s.length : Int))))) rfl (fun _ => by kernel_rfl) ?_)
      refine Xg.ops_flag (j := 18) (c := (decide (slot ≥ (↑s.length : Int)))) (by kernel_rfl) (fun _ => ?_) (fun xh1 => absurd (of_decide_eq_false xh1) (by omega))
      refine Xg.ops_op (by kernel_rfl) (Xg.opx_pure ((Value.bool true)) rfl (fun _ => by kernel_rfl) ?_)
      refine Xg.ops_op (by kernel_rfl) (Xg.opx_pure ((Value.bool true)) rfl (fun _ => by kernel_rfl) ?_)
      refine Xg.ops_skip (by kernel_rfl) ?_
      refine Xg.ops_skip (by kernel_rfl) ?_
      refine Xg.ops_skip (by kernel_rfl) ?_
      refine Xg.ops_skip (by kernel_rfl) ?_
      refine Xg.ops_skip (by kernel_rfl) ?_
      refine Xg.ops_skip (by kernel_rfl) ?_
      refine Xg.ops_skip (by kernel_rfl) ?_
      refine Xg.ops_skip (by kernel_rfl) ?_
      refine Xg.ops_op (by kernel_rfl) (Xg.opx_pure ((Value.bool true)) rfl (fun _ => by kernel_rfl) ?_)
      refine Xg.ops_nil ?_
      refine Xg.at_true (t := true) (by kernel_rfl) rfl ?_
      refine Xg.at_seq ?_
      refine Xg.at_region ?_
      refine Xg.ops_op (by kernel_rfl) (Xg.opx_pure ((iv 0)) rfl (fun _ => by kernel_rfl) ?_)
      refine Xg.ops_op (by kernel_rfl) (Xg.opx_pure ((iv 131)) rfl (fun _ => by kernel_rfl) ?_)
      refine Xg.ops_nil ?_
      refine Xg.at_ret_ps (v := (Value.tuple #[iv 0, iv 131])) [0, 1, 2] [RH p ra r.length rc sa s.length sc, RR ra rc r, SP sa sc s] Go.Proofs.Try.func35 (fun _ => by kernel_rfl) (by kernel_rfl) (by kernel_rfl) ?_
      refine ⟨((ra, rc, sa, sc)), trivial, by kernel_rfl, by kernel_rfl⟩)
  obtain ⟨k, rfl⟩ : ∃ k : Nat, slot = k := ⟨slot.toNat, by omega⟩
  by_cases c3 : 0 ≤ s.getD k 0
  · unfold begV begR begS
    rw [Int.toNat_natCast, if_pos (.inr (.inr c3)), if_neg (by omega), if_neg (by omega)]
    (focus
      refine Xg.spec_of Go.Proofs.Try.func35 rfl Go.Proofs.Try.ntmps35 fun g F => ?_)
    (focus
      refine Xg.at_seq ?_
      refine Xg.at_region ?_
      refine Xg.ops_op (by kernel_rfl) (Xg.opx_pure ((iv 0)) rfl (fun _ => by kernel_rfl) ?_)
      refine Xg.ops_op (by kernel_rfl) (Xg.opx_pure ((iv 0)) rfl (fun _ => by kernel_rfl) ?_)
      refine Xg.ops_nil ?_
      refine Xg.at_seq ?_
      refine Xg.at_seq ?_
      refine Xg.at_region ?_
      refine Xg.ops_op (by kernel_rfl) (Xg.opx_pure ((iv (↑k : Int))) rfl (fun _ => by kernel_rfl) ?_)
      refine Xg.ops_op (by kernel_rfl) (Xg.opx_pure (.bool (decide ((((↑k : Int)) : Int) < ((0 : Int))))) rfl (fun _ => by kernel_rfl) ?_)
      refine Xg.ops_op (by kernel_rfl) (Xg.opx_pure ((Value.bool (decide ((↑k : Int) < (0 : Int))))) rfl (fun _ => by kernel_rfl) ?_)
      refine Xg.ops_op (by kernel_rfl) (Xg.opx_pure ((iv (↑k : Int))) rfl (fun _ => by kernel_rfl) ?_)
      refine Xg.ops_op (by kernel_rfl) (Xg.opx_pure ((pv p 0)) rfl (fun _ => by kernel_rfl) ?_)
      refine Xg.ops_op (by kernel_rfl) (Xg.opx_pure ((pv p 0)) rfl (fun _ => by kernel_rfl) ?_)
      refine Xg.ops_op (by kernel_rfl) (Xg.opx_pure ((pv p 1)) rfl (fun _ => by kernel_rfl) ?_)
      refine Xg.ops_op (by kernel_rfl) (Xg.opx_load (b := p) (off := ((1 : Nat))) 0 (Value.slice sa s.length sc) rfl (by kernel_rfl) (by kernel_rfl) (by kernel_rfl) ?_)
      refine Xg.ops_op (by kernel_rfl) (Xg.opx_pure ((iv (↑s.length : Int))) rfl (fun _ => by kernel_rfl) ?_)
      refine Xg.ops_op (by kernel_rfl) (Xg.opx_pure (.bool (decide ((((↑k : Int)) : Int) ≥ ((↑s.length : Int))))) rfl (fun _ => by kernel_rfl) ?_)
      refine Xg.ops_flag (j := 11) (c := (decide ((↑k : Int) < (0 : Int)))) (by kernel_rfl) (fun xh1 => absurd (of_decide_eq_true xh1) (by omega)) (fun _ => ?_)
      refine Xg.ops_flag (j := 18) (c := (decide ((↑k : Int) ≥ (↑s.length : Int)))) (by kernel_rfl) (fun xh1 => absurd (of_decide_eq_true xh1) (by omega)) (fun _ => ?_)
      refine Xg.ops_op (by kernel_rfl) (Xg.opx_pure ((Value.bool false)) rfl (fun _ => by kernel_rfl) ?_)
      refine Xg.ops_op (by kernel_rfl) (Xg.opx_pure ((Value.bool false)) rfl (fun _ => by kernel_rfl) ?_)
      refine Xg.ops_op (by kernel_rfl) (Xg.opx_pure ((pv p 0)) rfl (fun _ => by kernel_rfl) ?_)
      refine Xg.ops_op (by kernel_rfl) (Xg.opx_pure ((pv p 0)) rfl (fun _ => by kernel_rfl) ?_)
      refine Xg.ops_op (by kernel_rfl) (Xg.opx_pure ((pv p 1)) rfl (fun _ => by kernel_rfl) ?_)
      refine Xg.ops_op (by kernel_rfl) (Xg.opx_load (b := p) (off := ((1 : Nat))) 0 (Value.slice sa s.length sc) rfl (by kernel_rfl) (by kernel_rfl) (by kernel_rfl) ?_)
      refine Xg.ops_op (by kernel_rfl) (Xg.opx_pure ((iv (↑k : Int))) rfl (fun _ => by kernel_rfl) ?_)
      refine Xg.ops_op (by kernel_rfl) (Xg.opx_ix_own (elem := 3) (kd := .i64) (e := ((↑k : Int))) 2 1 k k rfl (by kernel_rfl) (by kernel_rfl) (by kernel_rfl) (by kernel_rfl) rfl (by omega) (by omega) ?_)
      refine Xg.ops_op (by kernel_rfl) (Xg.opx_load_own (a := sa) (off := k) 2 (iv (s.getD k (0 : Int))) rfl (by kernel_rfl) (Xg.get_ints (by omega)) (by kernel_rfl) ?_)
      refine Xg.ops_op (by kernel_rfl) (Xg.opx_pure (.bool (decide (((s.getD k (0 : Int)) : Int) ≥ ((0 : Int))))) rfl (fun _ => by kernel_rfl) ?_)
      refine Xg.ops_flag (j := 28) (c := (decide (s.getD k (0 : Int) ≥ (0 : Int)))) (by kernel_rfl) (fun _ => ?_) (fun xh1 => absurd (of_decide_eq_false xh1) (by omega))
      refine Xg.ops_op (by kernel_rfl) (Xg.opx_pure ((Value.bool true)) rfl (fun _ => by kernel_rfl) ?_)
      refine Xg.ops_nil ?_
      refine Xg.at_true (t := true) (by kernel_rfl) rfl ?_
      refine Xg.at_seq ?_
      refine Xg.at_region ?_
      refine Xg.ops_op (by kernel_rfl) (Xg.opx_pure ((iv 0)) rfl (fun _ => by kernel_rfl) ?_)
      refine Xg.ops_op (by kernel_rfl) (Xg.opx_pure ((iv 131)) rfl (fun _ => by kernel_rfl) ?_)
      refine Xg.ops_nil ?_
      refine Xg.at_ret_ps (v := (Value.tuple #[iv 0, iv 131])) [0, 1, 2] [RH p ra r.length rc sa s.length sc, RR ra rc r, SP sa sc s] Go.Proofs.Try.func35 (fun _ => by kernel_rfl) (by kernel_rfl) (by kernel_rfl) ?_
      refine ⟨((ra, rc, sa, sc)), trivial, by kernel_rfl, by kernel_rfl⟩)
  have ht := fun rv id => rturns_d p rv sa sc s id (by omega)
  have c3 : s.getD k 0 < 0 := by omega
  (focus
    refine Xg.spec_of Go.Proofs.Try.func35 rfl Go.Proofs.Try.ntmps35 fun g F => ?_)
  (focus
    refine Xg.at_seq ?_
    refine Xg.at_region ?_
    refine Xg.ops_op (by kernel_rfl) (Xg.opx_pure ((iv 0)) rfl (fun _ => by kernel_rfl) ?_)
    refine Xg.ops_op (by kernel_rfl) (Xg.opx_pure ((iv 0)) rfl (fun _ => by kernel_rfl) ?_)
    refine Xg.ops_nil ?_
    refine Xg.at_seq ?_
    refine Xg.at_seq ?_
    refine Xg.at_region ?_
    refine Xg.ops_op (by kernel_rfl) (Xg.opx_pure ((iv (↑k : Int))) rfl (fun _ => by kernel_rfl) ?_)
    refine Xg.ops_op (by kernel_rfl) (Xg.opx_pure (.bool (decide ((((↑k : Int)) : Int) < ((0 : Int))))) rfl (fun _ => by kernel_rfl) ?_)
    refine Xg.ops_op (by kernel_rfl) (Xg.opx_pure ((Value.bool (decide ((↑k : Int) < (0 : Int))))) rfl (fun _ => by kernel_rfl) ?_)
    refine Xg.ops_op (by kernel_rfl) (Xg.opx_pure ((iv (↑k : Int))) rfl (fun _ => by kernel_rfl) ?_)
    refine Xg.ops_op (by kernel_rfl) (Xg.opx_pure ((pv p 0)) rfl (fun _ => by kernel_rfl) ?_)
    refine Xg.ops_op (by kernel_rfl) (Xg.opx_pure ((pv p 0)) rfl (fun _ => by kernel_rfl) ?_)
    refine Xg.ops_op (by kernel_rfl) (Xg.opx_pure ((pv p 1)) rfl (fun _ => by kernel_rfl) ?_)
    refine Xg.ops_op (by kernel_rfl) (Xg.opx_load (b := p) (off := ((1 : Nat))) 0 (Value.slice sa s.length sc) rfl (by kernel_rfl) (by kernel_rfl) (by kernel_rfl) ?_)
    refine Xg.ops_op (by kernel_rfl) (Xg.opx_pure ((iv (↑s.length : Int))) rfl (fun _ => by kernel_rfl) ?_)
    refine Xg.ops_op (by kernel_rfl) (Xg.opx_pure (.bool (decide ((((↑k : Int)) : Int) ≥ ((↑s.length : Int))))) rfl (fun _ => by kernel_rfl) ?_)
    refine Xg.ops_flag (j := 11) (c := (decide ((↑k : Int) < (0 : Int)))) (by kernel_rfl) (fun xh1 => absurd (of_decide_eq_true xh1) (by omega)) (fun _ => ?_)
    refine Xg.ops_flag (j := 18) (c := (decide ((↑k : Int) ≥ (↑s.length : Int)))) (by kernel_rfl) (fun xh1 => absurd (of_decide_eq_true xh1) (by omega)) (fun _ => ?_)
    refine Xg.ops_op (by kernel_rfl) (Xg.opx_pure ((Value.bool false)) rfl (fun _ => by kernel_rfl) ?_)
    refine Xg.ops_op (by kernel_rfl) (Xg.opx_pure ((Value.bool false)) rfl (fun _ => by kernel_rfl) ?_)
    refine Xg.ops_op (by kernel_rfl) (Xg.opx_pure ((pv p 0)) rfl (fun _ => by kernel_rfl) ?_)
    refine Xg.ops_op (by kernel_rfl) (Xg.opx_pure ((pv p 0)) rfl (fun _ => by kernel_rfl) ?_)
    refine Xg.ops_op (by kernel_rfl) (Xg.opx_pure ((pv p 1)) rfl (fun _ => by kernel_rfl) ?_)
    refine Xg.ops_op (by kernel_rfl) (Xg.opx_load (b := p) (off := ((1 : Nat))) 0 (Value.slice sa s.length sc) rfl (by kernel_rfl) (by kernel_rfl) (by kernel_rfl) ?_)
    refine Xg.ops_op (by kernel_rfl) (Xg.opx_pure ((iv (↑k : Int))) rfl (fun _ => by kernel_rfl) ?_)
    refine Xg.ops_op (by kernel_rfl) (Xg.opx_ix_own (elem := 3) (kd := .i64) (e := ((↑k : Int))) 2 1 k k rfl (by kernel_rfl) (by kernel_rfl) (by kernel_rfl) (by kernel_rfl) rfl (by omega) (by omega) ?_)
    refine Xg.ops_op (by kernel_rfl) (Xg.opx_load_own (a := sa) (off := k) 2 (iv (s.getD k (0 : Int))) rfl (by kernel_rfl) (Xg.get_ints (by omega)) (by kernel_rfl) ?_)
    refine Xg.ops_op (by kernel_rfl) (Xg.opx_pure (.bool (decide (((s.getD k (0 : Int)) : Int) ≥ ((0 : Int))))) rfl (fun _ => by kernel_rfl) ?_)
    refine Xg.ops_flag (j := 28) (c := (decide (s.getD k (0 : Int) ≥ (0 : Int)))) (by kernel_rfl) (fun xh1 => absurd (of_decide_eq_true xh1) (by omega)) (fun _ => ?_)
    refine Xg.ops_op (by kernel_rfl) (Xg.opx_pure ((Value.bool false)) rfl (fun _ => by kernel_rfl) ?_)
    refine Xg.ops_nil ?_
    refine Xg.at_false (t := false) (by kernel_rfl) rfl ?_
    refine Xg.at_skip ?_
    refine Xg.at_seq ?_
    refine Xg.at_seq ?_
    refine Xg.at_region ?_
    refine Xg.ops_op (by kernel_rfl) (Xg.opx_pure ((iv 0)) rfl (fun _ => by kernel_rfl) ?_)
    refine Xg.ops_nil ?_
    refine Xg.at_block ?_)
  (focus
    refine Xg.at_rounds_inv (α := (Nat) × (Nat → Value)) (fun x => ((fun i => i ≤ r.length ∧ ∀ j, j < i → free s (r.getD j default) = false) : (Nat) → Prop) x.1) (fun x => ((fun i => r.length - i) : (Nat) → Nat) x.1) (fun x => Xg.headT [pv p 0, iv (↑k : Int), tu, tu, iv 0, iv 0, iv 0, tu, tu, iv (↑k : Int), Value.bool (decide ((↑k : Int) < (0 : Int))), Value.bool false, iv (↑k : Int), pv p 0, pv p 0, pv p 1, Value.slice sa s.length sc, iv (↑s.length : Int), Value.bool false, Value.bool false, Value.bool false, pv p 0, pv p 0, pv p 1, Value.slice sa s.length sc, iv (↑k : Int), Value.pointer (some (Addr.mk (blk sa) k none)), iv (s.getD k (0 : Int)), Value.bool false, Value.bool false, tu, tu, tu, tu, tu, tu, tu, tu, tu, tu, tu, tu, tu, tu, tu, tu, tu, tu, tu, tu, tu, tu, tu, tu, tu, tu, tu, tu, tu, tu, tu, tu, tu, tu, tu, tu, tu, tu, tu, tu, tu, tu, tu, tu, tu] [4, 5, 7, 8, 30, 31, 32, 33, 34, 35, 36, 37, 38, 39, 40, 41, 42, 43, 44, 45, 46, 47, 48, 49, 50, 51, 52, 53, 54, 55, 56, 57, 58, 59, 60, 61, 62, 63, 64, 65, 66, 67, 68, 69, 70, 71, 72, 73, 74] (((fun i => [(6, .int .i64 (i : Nat))]) : (Nat) → List (Nat × Go.Value)) x.1) x.2) (fun x => ((fun i => [RH p ra r.length rc sa s.length sc, RR ra rc r, SP sa sc s]) : (Nat) → List Go.Sl.HP) x.1) ((0), fun j9 => ([pv p 0, iv (↑k : Int), tu, tu, iv 0, iv 0, iv 0, tu, tu, iv (↑k : Int), Value.bool (decide ((↑k : Int) < (0 : Int))), Value.bool false, iv (↑k : Int), pv p 0, pv p 0, pv p 1, Value.slice sa s.length sc, iv (↑s.length : Int), Value.bool false, Value.bool false, Value.bool false, pv p 0, pv p 0, pv p 1, Value.slice sa s.length sc, iv (↑k : Int), Value.pointer (some (Addr.mk (blk sa) k none)), iv (s.getD k (0 : Int)), Value.bool false, Value.bool false, tu, tu, tu, tu, tu, tu, tu, tu, tu, tu, tu, tu, tu, tu, tu, tu, tu, tu, tu, tu, tu, tu, tu, tu, tu, tu, tu, tu, tu, tu, tu, tu, tu, tu, tu, tu, tu, tu, tu, tu, tu, tu, tu, tu, tu] : List Value).getD j9 undef) (by kernel_rfl) (by kernel_rfl) ?_ ?_)
  · exact ⟨Nat.zero_le _, fun j hj => absurd hj (Nat.not_lt_zero j)⟩
  rintro ⟨i, J⟩ hi ih
  obtain ⟨hi, hno⟩ := hi
  dsimp only at hi hno
  (focus
    refine Xg.At.same (T' := [pv p 0, iv (↑k : Int), tu, tu, J 4, J 5, iv (↑i : Int), J 7, J 8, iv (↑k : Int), Value.bool (decide ((↑k : Int) < (0 : Int))), Value.bool false, iv (↑k : Int), pv p 0, pv p 0, pv p 1, Value.slice sa s.length sc, iv (↑s.length : Int), Value.bool false, Value.bool false, Value.bool false, pv p 0, pv p 0, pv p 1, Value.slice sa s.length sc, iv (↑k : Int), Value.pointer (some (Addr.mk (blk sa) k none)), iv (s.getD k (0 : Int)), Value.bool false, Value.bool false, J 30, J 31, J 32, J 33, J 34, J 35, J 36, J 37, J 38, J 39, J 40, J 41, J 42, J 43, J 44, J 45, J 46, J 47, J 48, J 49, J 50, J 51, J 52, J 53, J 54, J 55, J 56, J 57, J 58, J 59, J 60, J 61, J 62, J 63, J 64, J 65, J 66, J 67, J 68, J 69, J 70, J 71, J 72, J 73, J 74]) (L' := [RH p ra r.length rc sa s.length sc, RR ra rc r, SP sa sc s]) (by kernel_rfl) rfl ?_)
  by_cases hlt : i < r.length
  · have hti := ht (.slice ra r.length rc) (r.getD i default).1
    by_cases hb : (r.getD i default).2 = true
    · by_cases hon : 0 ≤ fidx (fun x => (r.getD i default).1 == x) s
      · rw [decide_eq_true hon] at hti
        have hf : free s (r.getD i default) = false := by unfold free; rw [decide_eq_true hon]; simp
        (focus
          refine Xg.at_seq ?_
          refine Xg.at_seq ?_
          refine Xg.at_region ?_
          refine Xg.ops_op (by kernel_rfl) (Xg.opx_pure ((iv (↑i : Int))) rfl (fun _ => by kernel_rfl) ?_)
          refine Xg.ops_op (by kernel_rfl) (Xg.opx_pure ((pv p 0)) rfl (fun _ => by kernel_rfl) ?_)
          refine Xg.ops_op (by kernel_rfl) (Xg.opx_pure ((pv p 0)) rfl (fun _ => by kernel_rfl) ?_)
          refine Xg.ops_op (by kernel_rfl) (Xg.opx_pure ((pv p 0)) rfl (fun _ => by kernel_rfl) ?_)
          refine Xg.ops_op (by kernel_rfl) (Xg.opx_load (b := p) (off := ((0 : Nat))) 0 (Value.slice ra r.length rc) rfl (by kernel_rfl) (by kernel_rfl) (by kernel_rfl) ?_)
          refine Xg.ops_op (by kernel_rfl) (Xg.opx_pure ((iv (↑r.length : Int))) rfl (fun _ => by kernel_rfl) ?_)
          refine Xg.ops_op (by kernel_rfl) (Xg.opx_pure (.bool (decide ((((↑i : Int)) : Int) < ((↑r.length : Int))))) rfl (fun _ => by kernel_rfl) ?_)
          refine Xg.ops_nil ?_
          refine Xg.at_true (t := decide (((↑i : Int) < (↑r.length : Int)))) (by kernel_rfl) (decide_eq_true (by omega)) ?_
          refine Xg.at_skip ?_
          refine Xg.at_seq ?_
          refine Xg.at_block ?_
          refine Xg.at_seq ?_
          refine Xg.at_region ?_
          refine Xg.ops_op (by kernel_rfl) (Xg.opx_pure ((pv p 0)) rfl (fun _ => by kernel_rfl) ?_)
          refine Xg.ops_op (by kernel_rfl) (Xg.opx_pure ((pv p 0)) rfl (fun _ => by kernel_rfl) ?_)
          refine Xg.ops_op (by kernel_rfl) (Xg.opx_pure ((pv p 0)) rfl (fun _ => by kernel_rfl) ?_)
          refine Xg.ops_op (by kernel_rfl) (Xg.opx_load (b := p) (off := ((0 : Nat))) 0 (Value.slice ra r.length rc) rfl (by kernel_rfl) (by kernel_rfl) (by kernel_rfl) ?_)
          refine Xg.ops_op (by kernel_rfl) (Xg.opx_pure ((iv (↑i : Int))) rfl (fun _ => by kernel_rfl) ?_)
          refine Xg.ops_op (by kernel_rfl) (Xg.opx_ix_own (elem := 82) (kd := .i64) (e := ((↑i : Int))) 1 2 i (i * (2 : Nat)) rfl (by kernel_rfl) (by kernel_rfl) (by kernel_rfl) (by kernel_rfl) rfl (by omega) (by omega) ?_)
          refine Xg.ops_op (by kernel_rfl) (Xg.opx_loadn_own (a := ra) (off := (i * (2 : Nat))) 2 1 [iv (r.getD i default).fst, Value.bool (r.getD i default).snd] (by kernel_rfl) rfl (by kernel_rfl) rfl (Xg.recs_at' (wd := 2) (fun _ => rfl) default i (by omega) (by omega) (by kernel_rfl)) (by kernel_rfl) ?_)
          refine Xg.ops_op (by kernel_rfl) (Xg.opx_new 2 [iv 0, Value.bool false] (by kernel_rfl) (by kernel_rfl) fun xb1 => ?_)
          refine Xg.ops_op (by kernel_rfl) (Xg.opx_storen 2 (off := 0) 0 [iv (r.getD i default).fst, Value.bool (r.getD i default).snd] (by kernel_rfl) rfl (by kernel_rfl) (by kernel_rfl) rfl (by kernel_rfl) (Nat.le_of_ble_eq_true (by kernel_rfl)) ?_)
          refine Xg.ops_nil ?_
          refine Xg.at_seq ?_)
        rw [hb]
        (focus
          refine Xg.at_region ?_
          refine Xg.ops_op (by kernel_rfl) (Xg.opx_pure ((pv p 0)) rfl (fun _ => by kernel_rfl) ?_)
          refine Xg.ops_op (by kernel_rfl) (Xg.opx_pure ((pv xb1 0)) rfl (fun _ => by kernel_rfl) ?_)
          refine Xg.ops_op (by kernel_rfl) (Xg.opx_load (b := xb1) (off := ((0 : Nat))) 0 (iv (r.getD i default).fst) rfl (by kernel_rfl) (by kernel_rfl) (by kernel_rfl) ?_)
          refine Xg.ops_op (by kernel_rfl) (Xg.opx_call1' [1, 3] [row p (80 : TypeId) [Value.slice ra r.length rc, Value.slice sa s.length sc], SP sa sc s, row xb1 (82 : Nat) [iv (r.getD i default).fst, Value.bool true], RR ra rc r] (fun _ => by kernel_rfl) (@hti ) (by kernel_rfl) (by kernel_rfl) (by kernel_rfl) ?_)
          refine Xg.ops_op (by kernel_rfl) (Xg.opx_pure ((Value.bool true)) rfl (fun _ => by kernel_rfl) ?_)
          refine Xg.ops_nil ?_
          refine Xg.at_seq ?_
          refine Xg.at_region ?_
          refine Xg.ops_op (by kernel_rfl) (Xg.opx_pure ((pv xb1 1)) rfl (fun _ => by kernel_rfl) ?_)
          refine Xg.ops_op (by kernel_rfl) (Xg.opx_load (b := xb1) (off := ((1 : Nat))) 2 (Value.bool true) rfl (by kernel_rfl) (by kernel_rfl) (by kernel_rfl) ?_)
          refine Xg.ops_op (by kernel_rfl) (Xg.opx_pure ((Value.bool true)) rfl (fun _ => by kernel_rfl) ?_)
          refine Xg.ops_op (by kernel_rfl) (Xg.opx_pure ((Value.bool true)) rfl (fun _ => by kernel_rfl) ?_)
          refine Xg.ops_op (by kernel_rfl) (Xg.opx_pure (.bool false) rfl (fun _ => by kernel_rfl) ?_)
          refine Xg.ops_op (by kernel_rfl) (Xg.opx_pure ((Value.bool false)) rfl (fun _ => by kernel_rfl) ?_)
          refine Xg.ops_nil ?_
          refine Xg.at_false (t := false) (by kernel_rfl) rfl ?_
          refine Xg.at_skip ?_
          refine Xg.at_inBlock ?_
          refine Xg.at_region ?_
          refine Xg.ops_op (by kernel_rfl) (Xg.opx_pure ((iv (↑i : Int))) rfl (fun _ => by kernel_rfl) ?_)
          refine Xg.ops_op (by kernel_rfl) (Xg.opx_int .i64 (IntKind.wrap .i64 (((↑i : Int) + (1 : Int)))) rfl (fun _ => by kernel_rfl) (Xg.wrap_i64_in (by omega)) ?_)
          refine Xg.ops_op (by kernel_rfl) (Xg.opx_pure ((iv ((↑i : Int) + (1 : Int)))) rfl (fun _ => by kernel_rfl) ?_)
          refine Xg.ops_nil ?_
          refine Xg.at_inLoop ?_)
        (focus
          refine Xg.at_keep [0, 3, 1] (by kernel_rfl) ?_
          refine Xs.same ?_ (fun J9 => ih (((i + 1)), J9) ?_ ?_) (by kernel_rfl))
        · rfl
        · refine ⟨hlt, fun j hj => ?_⟩
          by_cases e : j = i
          · rw [e]; exact hf
          · exact hno j (by omega)
        · dsimp only; omega
      · rw [decide_eq_false hon] at hti
        have hf : free s (r.getD i default) = true := by unfold free; rw [decide_eq_false hon, hb]; rfl
        have e : next r s = i := fidx_at default r i hlt hno hf
        have eV : begV r s (k : Nat) = .tuple #[.int .i64 (r.getD i default).1, .int .i64 0] := by
          unfold begV; rw [Int.toNat_natCast, if_neg (by omega), if_neg (by omega), e, Int.toNat_natCast]
        have eR : begR r s (k : Nat) = r.eraseIdx i ++ [r.getD i default] := by
          unfold begR; rw [Int.toNat_natCast, if_pos (by omega), e, Int.toNat_natCast]
        have eS : begS r s (k : Nat) = s.set k (r.getD i default).1 := by
          unfold begS; rw [Int.toNat_natCast, if_pos (by omega), e, Int.toNat_natCast]
        have hw := fun sv => rwithout_d p ra rc sv r i hlt (by omega)
        have hel : (r.eraseIdx i).length = r.length - 1 := by rw [List.length_eraseIdx, if_pos hlt]
        have ee : ((r.getD i default).1, true) = r.getD i default := by rw [← hb]
        rw [eV, eR, eS]
        clear ih
        refine Xg.at_off 2 rfl (by omega) fun hoff => ?_
        (focus
          refine Xg.at_seq ?_
          refine Xg.at_seq ?_
          refine Xg.at_region ?_
          refine Xg.ops_op (by kernel_rfl) (Xg.opx_pure ((iv (↑i : Int))) rfl (fun _ => by kernel_rfl) ?_)
          refine Xg.ops_op (by kernel_rfl) (Xg.opx_pure ((pv p 0)) rfl (fun _ => by kernel_rfl) ?_)
          refine Xg.ops_op (by kernel_rfl) (Xg.opx_pure ((pv p 0)) rfl (fun _ => by kernel_rfl) ?_)
          refine Xg.ops_op (by kernel_rfl) (Xg.opx_pure ((pv p 0)) rfl (fun _ => by kernel_rfl) ?_)
          refine Xg.ops_op (by kernel_rfl) (Xg.opx_load (b := p) (off := ((0 : Nat))) 0 (Value.slice ra r.length rc) rfl (by kernel_rfl) (by kernel_rfl) (by kernel_rfl) ?_)
          refine Xg.ops_op (by kernel_rfl) (Xg.opx_pure ((iv (↑r.length : Int))) rfl (fun _ => by kernel_rfl) ?_)
          refine Xg.ops_op (by kernel_rfl) (Xg.opx_pure (.bool (decide ((((↑i : Int)) : Int) < ((↑r.length : Int))))) rfl (fun _ => by kernel_rfl) ?_)
          refine Xg.ops_nil ?_
          refine Xg.at_true (t := decide (((↑i : Int) < (↑r.length : Int)))) (by kernel_rfl) (decide_eq_true (by omega)) ?_
          refine Xg.at_skip ?_
          refine Xg.at_seq ?_
          refine Xg.at_block ?_
          refine Xg.at_seq ?_
          refine Xg.at_region ?_
          refine Xg.ops_op (by kernel_rfl) (Xg.opx_pure ((pv p 0)) rfl (fun _ => by kernel_rfl) ?_)
          refine Xg.ops_op (by kernel_rfl) (Xg.opx_pure ((pv p 0)) rfl (fun _ => by kernel_rfl) ?_)
          refine Xg.ops_op (by kernel_rfl) (Xg.opx_pure ((pv p 0)) rfl (fun _ => by kernel_rfl) ?_)
          refine Xg.ops_op (by kernel_rfl) (Xg.opx_load (b := p) (off := ((0 : Nat))) 0 (Value.slice ra r.length rc) rfl (by kernel_rfl) (by kernel_rfl) (by kernel_rfl) ?_)
          refine Xg.ops_op (by kernel_rfl) (Xg.opx_pure ((iv (↑i : Int))) rfl (fun _ => by kernel_rfl) ?_)
          refine Xg.ops_op (by kernel_rfl) (Xg.opx_ix_own (elem := 82) (kd := .i64) (e := ((↑i : Int))) 1 2 i (i * (2 : Nat)) rfl (by kernel_rfl) (by kernel_rfl) (by kernel_rfl) (by kernel_rfl) rfl (by omega) (by omega) ?_)
          refine Xg.ops_op (by kernel_rfl) (Xg.opx_loadn_own (a := ra) (off := (i * (2 : Nat))) 2 1 [iv (r.getD i default).fst, Value.bool (r.getD i default).snd] (by kernel_rfl) rfl (by kernel_rfl) rfl (Xg.recs_at' (wd := 2) (fun _ => rfl) default i (by omega) (by omega) (by kernel_rfl)) (by kernel_rfl) ?_)
          refine Xg.ops_op (by kernel_rfl) (Xg.opx_new 2 [iv 0, Value.bool false] (by kernel_rfl) (by kernel_rfl) fun xb1 => ?_)
          refine Xg.ops_op (by kernel_rfl) (Xg.opx_storen 2 (off := 0) 0 [iv (r.getD i default).fst, Value.bool (r.getD i default).snd] (by kernel_rfl) rfl (by kernel_rfl) (by kernel_rfl) rfl (by kernel_rfl) (Nat.le_of_ble_eq_true (by kernel_rfl)) ?_)
          refine Xg.ops_nil ?_
          refine Xg.at_seq ?_)
        rw [hb]
        (focus
          refine Xg.at_region ?_
          refine Xg.ops_op (by kernel_rfl) (Xg.opx_pure ((pv p 0)) rfl (fun _ => by kernel_rfl) ?_)
          refine Xg.ops_op (by kernel_rfl) (Xg.opx_pure ((pv xb1 0)) rfl (fun _ => by kernel_rfl) ?_)
          refine Xg.ops_op (by kernel_rfl) (Xg.opx_load (b := xb1) (off := ((0 : Nat))) 0 (iv (r.getD i default).fst) rfl (by kernel_rfl) (by kernel_rfl) (by kernel_rfl) ?_)
          refine Xg.ops_op (by kernel_rfl) (Xg.opx_call1' [1, 3] [row p (80 : TypeId) [Value.slice ra r.length rc, Value.slice sa s.length sc], SP sa sc s, row xb1 (82 : Nat) [iv (r.getD i default).fst, Value.bool true], RR ra rc r] (fun _ => by kernel_rfl) (@hti ) (by kernel_rfl) (by kernel_rfl) (by kernel_rfl) ?_)
          refine Xg.ops_op (by kernel_rfl) (Xg.opx_pure ((Value.bool false)) rfl (fun _ => by kernel_rfl) ?_)
          refine Xg.ops_nil ?_
          refine Xg.at_seq ?_
          refine Xg.at_region ?_
          refine Xg.ops_op (by kernel_rfl) (Xg.opx_pure ((pv xb1 1)) rfl (fun _ => by kernel_rfl) ?_)
          refine Xg.ops_op (by kernel_rfl) (Xg.opx_load (b := xb1) (off := ((1 : Nat))) 2 (Value.bool true) rfl (by kernel_rfl) (by kernel_rfl) (by kernel_rfl) ?_)
          refine Xg.ops_op (by kernel_rfl) (Xg.opx_pure ((Value.bool true)) rfl (fun _ => by kernel_rfl) ?_)
          refine Xg.ops_op (by kernel_rfl) (Xg.opx_pure ((Value.bool false)) rfl (fun _ => by kernel_rfl) ?_)
          refine Xg.ops_op (by kernel_rfl) (Xg.opx_pure (.bool true) rfl (fun _ => by kernel_rfl) ?_)
          refine Xg.ops_op (by kernel_rfl) (Xg.opx_pure ((Value.bool true)) rfl (fun _ => by kernel_rfl) ?_)
          refine Xg.ops_nil ?_
          refine Xg.at_true (t := true) (by kernel_rfl) rfl ?_
          refine Xg.at_seq ?_
          refine Xg.at_draw [3, 4, 5, 6, 9] [] (by kernel_rfl) ?_
          refine Xg.any_pure ((pv p 0)) 0 (by kernel_rfl) rfl (by kernel_rfl) (by kernel_rfl) (by kernel_rfl) (by kernel_rfl) rfl (fun _ => by kernel_rfl) ?_
          refine Xg.any_pure ((pv p 0)) 1 (by kernel_rfl) rfl (by kernel_rfl) (by kernel_rfl) (by kernel_rfl) (by kernel_rfl) rfl (fun _ => by kernel_rfl) ?_
          refine Xg.any_pure ((iv (↑i : Int))) 2 (by kernel_rfl) rfl (by kernel_rfl) (by kernel_rfl) (by kernel_rfl) (by kernel_rfl) rfl (fun _ => by kernel_rfl) ?_
          refine Xg.any_each [3, 4] (by kernel_rfl) rfl ⟨?_, ?_, trivial⟩
          refine Xg.comes_act rfl (by kernel_rfl) (by kernel_rfl) (Xg.opx_callE' [0, 3] (fun xx1 => [row p (80 : TypeId) [Value.slice ra r.length rc, Value.slice sa s.length sc], RR ra rc r, RR xx1.fst xx1.snd (r.eraseIdx i), SP sa sc s, row xb1 (82 : Nat) [iv (r.getD i default).fst, Value.bool true]]) (fun _ => by kernel_rfl) (@hw ((Value.slice sa s.length sc))) (by kernel_rfl) (by kernel_rfl) (by kernel_rfl) fun xx1 xh1 => ?_)
          try dsimp only at xh1
          refine Xg.acts Xg.owes_nil ?_
          rotate_left
          refine Xg.comes_act rfl (by kernel_rfl) (by kernel_rfl) (Xg.opx_loadn (off := 0) 2 2 [iv (r.getD i default).fst, Value.bool true] (by kernel_rfl) rfl (by kernel_rfl) rfl (Xg.cells_at (by kernel_rfl)) (by kernel_rfl) ?_)
          refine Xg.acts Xg.owes_nil ?_
          rotate_left
          refine Xg.any_each [4] (by kernel_rfl) rfl ⟨?_, trivial⟩
          refine Xg.comes_act rfl (by kernel_rfl) (by kernel_rfl) (Xg.opx_loadn (off := 0) 2 4 [iv (r.getD i default).fst, Value.bool true] (by kernel_rfl) rfl (by kernel_rfl) rfl (Xg.cells_at (by kernel_rfl)) (by kernel_rfl) ?_)
          refine Xg.acts Xg.owes_nil ?_
          refine Xg.any_each [5] (by kernel_rfl) rfl ⟨?_, trivial⟩
          refine Xg.comes_act rfl (by kernel_rfl) (by kernel_rfl) (Xg.opx_bs (elem := 82) 2 [Value.agg #[iv (r.getD i default).fst, Value.bool true]] [iv (r.getD i default).fst, Value.bool true] (by kernel_rfl) (by kernel_rfl) (by decide) rfl (by kernel_rfl) (by kernel_rfl) (by kernel_rfl) (by kernel_rfl) fun xb2 => ?_)
          refine Xg.acts Xg.owes_nil ?_
          refine Xg.any_each [6] (by kernel_rfl) rfl ⟨?_, trivial⟩
          refine Xg.comes_act rfl (by kernel_rfl) (by kernel_rfl) (Xg.opx_append_recs (elem := 82) (yv := (Value.slice (some (Addr.mk xb2 (0 : Nat) none)) (1 : Nat) (1 : Nat))) (l := (r.eraseIdx i)) 3 2 64 (((r.getD i default).fst, true)) rfl (by kernel_rfl) (by kernel_rfl) (by kernel_rfl) (by kernel_rfl) (fun _ hS => Xg.row_rd hS 0 rfl (by kernel_rfl)) (by kernel_rfl) (by first | omega | (simp only [List.length_nil]; omega) | (simp; done) | (simp; omega)) (by first | omega | (simp only [List.length_nil]; omega) | (simp; done) | (simp; omega)) fun xa1 xc1 => ?_)
          have xl1 : (((r.eraseIdx i) : (List (Int × Bool))) ++ ([(((r.getD i default).fst, true))] : (List (Int × Bool)))).length = ((r.eraseIdx i) : (List (Int × Bool))).length + 1 := by simp
          refine Xg.acts Xg.owes_nil ?_
          refine Xg.any_pure ((pv p 0)) 7 (by kernel_rfl) rfl (by kernel_rfl) (by kernel_rfl) (by kernel_rfl) (by kernel_rfl) rfl (fun _ => by kernel_rfl) ?_
          refine Xg.any_pure ((pv p 0)) 8 (by kernel_rfl) rfl (by kernel_rfl) (by kernel_rfl) (by kernel_rfl) (by kernel_rfl) rfl (fun _ => by kernel_rfl) ?_
          refine Xg.any_each [9] (by kernel_rfl) rfl ⟨?_, trivial⟩
          refine Xg.comes_act rfl (by kernel_rfl) (by kernel_rfl) (Xg.opx_store1 (off := 0) 1 (Value.slice xa1 (r.eraseIdx i ++ [((r.getD i default).fst, true)]).length xc1) (by kernel_rfl) rfl (by kernel_rfl) (by kernel_rfl) (by kernel_rfl) (Nat.le_of_ble_eq_true (by kernel_rfl)) ?_)
          refine Xg.acts Xg.owes_nil ?_
          refine Xg.any_nil (by kernel_rfl) ?_
          refine Xg.at_seq ?_
          refine Xg.at_draw [8] [(3, [0, 1, 2, 3, 4, 5, 6], Xg.CellIs (p) (((1 : Nat))) ((Value.slice sa s.length sc))), (6, [0, 1, 2, 3, 4, 5, 6], Xg.CellIs (xb1) (((0 : Nat))) ((iv (r.getD i default).fst))), (7, [0, 1, 2, 3, 4, 5, 6, 7], (RdIs (1 : Nat) (Value.slice sa s.length sc) s.length (List.map (Value.int IntKind.i64) s)))] (by kernel_rfl) ?_
          refine Xg.any_pure ((pv p 0)) 0 (by kernel_rfl) rfl (by kernel_rfl) (by kernel_rfl) (by kernel_rfl) (by kernel_rfl) rfl (fun _ => by kernel_rfl) ?_
          refine Xg.any_pure ((pv p 0)) 1 (by kernel_rfl) rfl (by kernel_rfl) (by kernel_rfl) (by kernel_rfl) (by kernel_rfl) rfl (fun _ => by kernel_rfl) ?_
          refine Xg.any_pure ((pv p 1)) 2 (by kernel_rfl) rfl (by kernel_rfl) (by kernel_rfl) (by kernel_rfl) (by kernel_rfl) rfl (fun _ => by kernel_rfl) ?_
          refine Xg.any_reads (Value.slice sa s.length sc) 3 0 (by kernel_rfl) rfl (by kernel_rfl) (by kernel_rfl) (by kernel_rfl) (by kernel_rfl) rfl rfl (by kernel_rfl) (Xg.cell_now (b := p) (off := ((1 : Nat))) 1 rfl (by kernel_rfl)) (fun _ h => Xg.run_load (by kernel_rfl) (by kernel_rfl) h) ?_
          refine Xg.any_pure ((iv (↑k : Int))) 4 (by kernel_rfl) rfl (by kernel_rfl) (by kernel_rfl) (by kernel_rfl) (by kernel_rfl) rfl (fun _ => by kernel_rfl) ?_
          refine Xg.any_pure ((pv xb1 0)) 5 (by kernel_rfl) rfl (by kernel_rfl) (by kernel_rfl) (by kernel_rfl) (by kernel_rfl) rfl (fun _ => by kernel_rfl) ?_
          refine Xg.any_reads (iv (r.getD i default).fst) 6 1 (by kernel_rfl) rfl (by kernel_rfl) (by kernel_rfl) (by kernel_rfl) (by kernel_rfl) rfl rfl (by kernel_rfl) (Xg.cell_now (b := xb1) (off := ((0 : Nat))) 5 rfl (by kernel_rfl)) (fun _ h => Xg.run_load (by kernel_rfl) (by kernel_rfl) h) ?_
          refine Xg.any_reads (.pointer (some (Addr.mk (Xg.blk sa) (offA sa + k) none))) 7 2 (by kernel_rfl) rfl (by kernel_rfl) (by kernel_rfl) (by kernel_rfl) (by kernel_rfl) rfl rfl (by kernel_rfl) (Xg.rd_now 4 (Xg.reads_own (E := ((3 : TypeId))) (sz := ((1 : Nat))) (n := s.length) (c := sc) (a := sa) (vs := (List.map (Value.int IntKind.i64) s))) (by kernel_rfl)) (Xg.run_ix_rd (elem := 3) (kd := .i64) (e := ((↑k : Int))) 1 k (offA sa + k) (by kernel_rfl) (by kernel_rfl) (by kernel_rfl) (by kernel_rfl) rfl (by omega) (by simp only [List.length_map]; omega) (by omega)) ?_
          refine Xg.any_each [8] (by kernel_rfl) rfl ⟨?_, trivial⟩
          refine Xg.comes_act rfl (by kernel_rfl) (by kernel_rfl) (Xg.opx_store_own_i (a := sa) (off := (offA sa + k)) (kd := .i64) (xs := s) (e := ((r.getD i default).fst)) 4 (by kernel_rfl) rfl (by kernel_rfl) (by kernel_rfl) (by first | omega | (simp only [List.length_set]; omega)) ?_)
          refine Xg.acts (Xg.owes_skip (by kernel_rfl) (Xg.owes_skip (by kernel_rfl) (Xg.owes_skip (by kernel_rfl) Xg.owes_nil))) ?_
          refine Xg.any_nil (by kernel_rfl) ?_
          refine Xg.at_seq ?_
          refine Xg.at_region ?_
          refine Xg.ops_op (by kernel_rfl) (Xg.opx_pure ((pv xb1 0)) rfl (fun _ => by kernel_rfl) ?_)
          refine Xg.ops_op (by kernel_rfl) (Xg.opx_load (b := xb1) (off := ((0 : Nat))) 5 (iv (r.getD i default).fst) rfl (by kernel_rfl) (by kernel_rfl) (by kernel_rfl) ?_)
          refine Xg.ops_op (by kernel_rfl) (Xg.opx_pure ((iv (r.getD i default).fst)) rfl (fun _ => by kernel_rfl) ?_)
          refine Xg.ops_op (by kernel_rfl) (Xg.opx_pure ((iv 0)) rfl (fun _ => by kernel_rfl) ?_)
          refine Xg.ops_nil ?_
          refine Xg.at_ret_ps (v := (Value.tuple #[iv (r.getD i default).fst, iv 0])) [1, 3, 4] [row p (80 : TypeId) [Value.slice xa1 (r.eraseIdx i ++ [((r.getD i default).fst, true)]).length xc1, Value.slice sa s.length sc], recsO (82 : TypeId) (2 : Nat) mc xa1 xc1 (r.eraseIdx i ++ [((r.getD i default).fst, true)]), ownS (3 : TypeId) (1 : Nat) (Value.slice sa s.length sc) s.length (List.map (Value.int IntKind.i64) (s.set (offA sa + k) (r.getD i default).fst))] Go.Proofs.Try.func35 (fun _ => by kernel_rfl) (by kernel_rfl) (by kernel_rfl) ?_
          refine ⟨((xa1, xc1, sa, sc)), trivial, by kernel_rfl, ?_⟩
          rotate_left
          refine Xg.any_each [3, 5] (by kernel_rfl) rfl ⟨?_, ?_, trivial⟩
          refine Xg.comes_act rfl (by kernel_rfl) (by kernel_rfl) (Xg.opx_callE' [0, 3] (fun xx1 => [row p (80 : TypeId) [Value.slice ra r.length rc, Value.slice sa s.length sc], RR ra rc r, RR xx1.fst xx1.snd (r.eraseIdx i), SP sa sc s, row xb1 (82 : Nat) [iv (r.getD i default).fst, Value.bool true]]) (fun _ => by kernel_rfl) (@hw ((Value.slice sa s.length sc))) (by kernel_rfl) (by kernel_rfl) (by kernel_rfl) fun xx1 xh1 => ?_)
          try dsimp only at xh1
          refine Xg.acts Xg.owes_nil ?_
          rotate_left
          refine Xg.comes_act rfl (by kernel_rfl) (by kernel_rfl) (Xg.opx_bs (elem := 82) 2 [Value.agg #[iv (r.getD i default).fst, Value.bool true]] [iv (r.getD i default).fst, Value.bool true] (by kernel_rfl) (by kernel_rfl) (by decide) rfl (by kernel_rfl) (by kernel_rfl) (by kernel_rfl) (by kernel_rfl) fun xb2 => ?_)
          refine Xg.acts Xg.owes_nil ?_
          rotate_left
          rotate_left
          refine Xg.any_each [5] (by kernel_rfl) rfl ⟨?_, trivial⟩
          refine Xg.comes_act rfl (by kernel_rfl) (by kernel_rfl) (Xg.opx_bs (elem := 82) 2 [Value.agg #[iv (r.getD i default).fst, Value.bool true]] [iv (r.getD i default).fst, Value.bool true] (by kernel_rfl) (by kernel_rfl) (by decide) rfl (by kernel_rfl) (by kernel_rfl) (by kernel_rfl) (by kernel_rfl) fun xb2 => ?_)
          refine Xg.acts Xg.owes_nil ?_
          refine Xg.any_each [6] (by kernel_rfl) rfl ⟨?_, trivial⟩
          refine Xg.comes_act rfl (by kernel_rfl) (by kernel_rfl) (Xg.opx_append_recs (elem := 82) (yv := (Value.slice (some (Addr.mk xb2 (0 : Nat) none)) (1 : Nat) (1 : Nat))) (l := (r.eraseIdx i)) 3 2 64 (((r.getD i default).fst, true)) rfl (by kernel_rfl) (by kernel_rfl) (by kernel_rfl) (by kernel_rfl) (fun _ hS => Xg.row_rd hS 0 rfl (by kernel_rfl)) (by kernel_rfl) (by first | omega | (simp only [List.length_nil]; omega) | (simp; done) | (simp; omega)) (by first | omega | (simp only [List.length_nil]; omega) | (simp; done) | (simp; omega)) fun xa1 xc1 => ?_)
          have xl1 : (((r.eraseIdx i) : (List (Int × Bool))) ++ ([(((r.getD i default).fst, true))] : (List (Int × Bool)))).length = ((r.eraseIdx i) : (List (Int × Bool))).length + 1 := by simp
          refine Xg.acts Xg.owes_nil ?_
          refine Xg.any_pure ((pv p 0)) 7 (by kernel_rfl) rfl (by kernel_rfl) (by kernel_rfl) (by kernel_rfl) (by kernel_rfl) rfl (fun _ => by kernel_rfl) ?_
          refine Xg.any_pure ((pv p 0)) 8 (by kernel_rfl) rfl (by kernel_rfl) (by kernel_rfl) (by kernel_rfl) (by kernel_rfl) rfl (fun _ => by kernel_rfl) ?_
          refine Xg.any_each [9] (by kernel_rfl) rfl ⟨?_, trivial⟩
          refine Xg.comes_act rfl (by kernel_rfl) (by kernel_rfl) (Xg.opx_store1 (off := 0) 1 (Value.slice xa1 (r.eraseIdx i ++ [((r.getD i default).fst, true)]).length xc1) (by kernel_rfl) rfl (by kernel_rfl) (by kernel_rfl) (by kernel_rfl) (Nat.le_of_ble_eq_true (by kernel_rfl)) ?_)
          refine Xg.acts Xg.owes_nil ?_
          refine Xg.any_nil (by kernel_rfl) ?_
          refine Xg.at_seq ?_
          refine Xg.at_draw [8] [(3, [0, 1, 2, 3, 4, 5, 6], Xg.CellIs (p) (((1 : Nat))) ((Value.slice sa s.length sc))), (6, [0, 1, 2, 3, 4, 5, 6], Xg.CellIs (xb1) (((0 : Nat))) ((iv (r.getD i default).fst))), (7, [0, 1, 2, 3, 4, 5, 6, 7], (RdIs (1 : Nat) (Value.slice sa s.length sc) s.length (List.map (Value.int IntKind.i64) s)))] (by kernel_rfl) ?_
          refine Xg.any_pure ((pv p 0)) 0 (by kernel_rfl) rfl (by kernel_rfl) (by kernel_rfl) (by kernel_rfl) (by kernel_rfl) rfl (fun _ => by kernel_rfl) ?_
          refine Xg.any_pure ((pv p 0)) 1 (by kernel_rfl) rfl (by kernel_rfl) (by kernel_rfl) (by kernel_rfl) (by kernel_rfl) rfl (fun _ => by kernel_rfl) ?_
          refine Xg.any_pure ((pv p 1)) 2 (by kernel_rfl) rfl (by kernel_rfl) (by kernel_rfl) (by kernel_rfl) (by kernel_rfl) rfl (fun _ => by kernel_rfl) ?_
          refine Xg.any_reads (Value.slice sa s.length sc) 3 0 (by kernel_rfl) rfl (by kernel_rfl) (by kernel_rfl) (by kernel_rfl) (by kernel_rfl) rfl rfl (by kernel_rfl) (Xg.cell_now (b := p) (off := ((1 : Nat))) 1 rfl (by kernel_rfl)) (fun _ h => Xg.run_load (by kernel_rfl) (by kernel_rfl) h) ?_
          refine Xg.any_pure ((iv (↑k : Int))) 4 (by kernel_rfl) rfl (by kernel_rfl) (by kernel_rfl) (by kernel_rfl) (by kernel_rfl) rfl (fun _ => by kernel_rfl) ?_
          refine Xg.any_pure ((pv xb1 0)) 5 (by kernel_rfl) rfl (by kernel_rfl) (by kernel_rfl) (by kernel_rfl) (by kernel_rfl) rfl (fun _ => by kernel_rfl) ?_
          refine Xg.any_reads (iv (r.getD i default).fst) 6 1 (by kernel_rfl) rfl (by kernel_rfl) (by kernel_rfl) (by kernel_rfl) (by kernel_rfl) rfl rfl (by kernel_rfl) (Xg.cell_now (b := xb1) (off := ((0 : Nat))) 5 rfl (by kernel_rfl)) (fun _ h => Xg.run_load (by kernel_rfl) (by kernel_rfl) h) ?_
          refine Xg.any_reads (.pointer (some (Addr.mk (Xg.blk sa) (offA sa + k) none))) 7 2 (by kernel_rfl) rfl (by kernel_rfl) (by kernel_rfl) (by kernel_rfl) (by kernel_rfl) rfl rfl (by kernel_rfl) (Xg.rd_now 4 (Xg.reads_own (E := ((3 : TypeId))) (sz := ((1 : Nat))) (n := s.length) (c := sc) (a := sa) (vs := (List.map (Value.int IntKind.i64) s))) (by kernel_rfl)) (Xg.run_ix_rd (elem := 3) (kd := .i64) (e := ((↑k : Int))) 1 k (offA sa + k) (by kernel_rfl) (by kernel_rfl) (by kernel_rfl) (by kernel_rfl) rfl (by omega) (by simp only [List.length_map]; omega) (by omega)) ?_
          refine Xg.any_each [8] (by kernel_rfl) rfl ⟨?_, trivial⟩
          refine Xg.comes_act rfl (by kernel_rfl) (by kernel_rfl) (Xg.opx_store_own_i (a := sa) (off := (offA sa + k)) (kd := .i64) (xs := s) (e := ((r.getD i default).fst)) 4 (by kernel_rfl) rfl (by kernel_rfl) (by kernel_rfl) (by first | omega | (simp only [List.length_set]; omega)) ?_)
          refine Xg.acts (Xg.owes_skip (by kernel_rfl) (Xg.owes_skip (by kernel_rfl) (Xg.owes_skip (by kernel_rfl) Xg.owes_nil))) ?_
          refine Xg.any_nil (by kernel_rfl) ?_
          refine Xg.at_seq ?_
          refine Xg.at_region ?_
          refine Xg.ops_op (by kernel_rfl) (Xg.opx_pure ((pv xb1 0)) rfl (fun _ => by kernel_rfl) ?_)
          refine Xg.ops_op (by kernel_rfl) (Xg.opx_load (b := xb1) (off := ((0 : Nat))) 5 (iv (r.getD i default).fst) rfl (by kernel_rfl) (by kernel_rfl) (by kernel_rfl) ?_)
          refine Xg.ops_op (by kernel_rfl) (Xg.opx_pure ((iv (r.getD i default).fst)) rfl (fun _ => by kernel_rfl) ?_)
          refine Xg.ops_op (by kernel_rfl) (Xg.opx_pure ((iv 0)) rfl (fun _ => by kernel_rfl) ?_)
          refine Xg.ops_nil ?_
          refine Xg.at_ret_ps (v := (Value.tuple #[iv (r.getD i default).fst, iv 0])) [1, 3, 4] [row p (80 : TypeId) [Value.slice xa1 (r.eraseIdx i ++ [((r.getD i default).fst, true)]).length xc1, Value.slice sa s.length sc], recsO (82 : TypeId) (2 : Nat) mc xa1 xc1 (r.eraseIdx i ++ [((r.getD i default).fst, true)]), ownS (3 : TypeId) (1 : Nat) (Value.slice sa s.length sc) s.length (List.map (Value.int IntKind.i64) (s.set (offA sa + k) (r.getD i default).fst))] Go.Proofs.Try.func35 (fun _ => by kernel_rfl) (by kernel_rfl) (by kernel_rfl) ?_
          refine ⟨((xa1, xc1, sa, sc)), trivial, by kernel_rfl, ?_⟩
          rotate_left
          refine Xg.any_each [3] (by kernel_rfl) rfl ⟨?_, trivial⟩
          refine Xg.comes_act rfl (by kernel_rfl) (by kernel_rfl) (Xg.opx_callE' [1, 4] (fun xx1 => [row p (80 : TypeId) [Value.slice ra r.length rc, Value.slice sa s.length sc], RR ra rc r, RR xx1.fst xx1.snd (r.eraseIdx i), row xb2 (82 : TypeId) [iv (r.getD i default).fst, Value.bool true], SP sa sc s, row xb1 (82 : Nat) [iv (r.getD i default).fst, Value.bool true]]) (fun _ => by kernel_rfl) (@hw ((Value.slice sa s.length sc))) (by kernel_rfl) (by kernel_rfl) (by kernel_rfl) fun xx1 xh1 => ?_)
          try dsimp only at xh1
          refine Xg.acts Xg.owes_nil ?_
          refine Xg.any_each [6] (by kernel_rfl) rfl ⟨?_, trivial⟩
          refine Xg.comes_act rfl (by kernel_rfl) (by kernel_rfl) (Xg.opx_append_recs (elem := 82) (yv := (Value.slice (some (Addr.mk xb2 (0 : Nat) none)) (1 : Nat) (1 : Nat))) (l := (r.eraseIdx i)) 2 2 64 (((r.getD i default).fst, true)) rfl (by kernel_rfl) (by kernel_rfl) (by kernel_rfl) (by kernel_rfl) (fun _ hS => Xg.row_rd hS 3 rfl (by kernel_rfl)) (by kernel_rfl) (by first | omega | (simp only [List.length_nil]; omega) | (simp; done) | (simp; omega)) (by first | omega | (simp only [List.length_nil]; omega) | (simp; done) | (simp; omega)) fun xa1 xc1 => ?_)
          have xl1 : (((r.eraseIdx i) : (List (Int × Bool))) ++ ([(((r.getD i default).fst, true))] : (List (Int × Bool)))).length = ((r.eraseIdx i) : (List (Int × Bool))).length + 1 := by simp
          refine Xg.acts Xg.owes_nil ?_
          refine Xg.any_pure ((pv p 0)) 7 (by kernel_rfl) rfl (by kernel_rfl) (by kernel_rfl) (by kernel_rfl) (by kernel_rfl) rfl (fun _ => by kernel_rfl) ?_
          refine Xg.any_pure ((pv p 0)) 8 (by kernel_rfl) rfl (by kernel_rfl) (by kernel_rfl) (by kernel_rfl) (by kernel_rfl) rfl (fun _ => by kernel_rfl) ?_
          refine Xg.any_each [9] (by kernel_rfl) rfl ⟨?_, trivial⟩
          refine Xg.comes_act rfl (by kernel_rfl) (by kernel_rfl) (Xg.opx_store1 (off := 0) 0 (Value.slice xa1 (r.eraseIdx i ++ [((r.getD i default).fst, true)]).length xc1) (by kernel_rfl) rfl (by kernel_rfl) (by kernel_rfl) (by kernel_rfl) (Nat.le_of_ble_eq_true (by kernel_rfl)) ?_)
          refine Xg.acts Xg.owes_nil ?_
          refine Xg.any_nil (by kernel_rfl) ?_
          refine Xg.at_seq ?_
          refine Xg.at_draw [8] [(3, [0, 1, 2, 3, 4, 5, 6], Xg.CellIs (p) (((1 : Nat))) ((Value.slice sa s.length sc))), (6, [0, 1, 2, 3, 4, 5, 6], Xg.CellIs (xb1) (((0 : Nat))) ((iv (r.getD i default).fst))), (7, [0, 1, 2, 3, 4, 5, 6, 7], (RdIs (1 : Nat) (Value.slice sa s.length sc) s.length (List.map (Value.int IntKind.i64) s)))] (by kernel_rfl) ?_
          refine Xg.any_pure ((pv p 0)) 0 (by kernel_rfl) rfl (by kernel_rfl) (by kernel_rfl) (by kernel_rfl) (by kernel_rfl) rfl (fun _ => by kernel_rfl) ?_
          refine Xg.any_pure ((pv p 0)) 1 (by kernel_rfl) rfl (by kernel_rfl) (by kernel_rfl) (by kernel_rfl) (by kernel_rfl) rfl (fun _ => by kernel_rfl) ?_
          refine Xg.any_pure ((pv p 1)) 2 (by kernel_rfl) rfl (by kernel_rfl) (by kernel_rfl) (by kernel_rfl) (by kernel_rfl) rfl (fun _ => by kernel_rfl) ?_
          refine Xg.any_reads (Value.slice sa s.length sc) 3 0 (by kernel_rfl) rfl (by kernel_rfl) (by kernel_rfl) (by kernel_rfl) (by kernel_rfl) rfl rfl (by kernel_rfl) (Xg.cell_now (b := p) (off := ((1 : Nat))) 0 rfl (by kernel_rfl)) (fun _ h => Xg.run_load (by kernel_rfl) (by kernel_rfl) h) ?_
          refine Xg.any_pure ((iv (↑k : Int))) 4 (by kernel_rfl) rfl (by kernel_rfl) (by kernel_rfl) (by kernel_rfl) (by kernel_rfl) rfl (fun _ => by kernel_rfl) ?_
          refine Xg.any_pure ((pv xb1 0)) 5 (by kernel_rfl) rfl (by kernel_rfl) (by kernel_rfl) (by kernel_rfl) (by kernel_rfl) rfl (fun _ => by kernel_rfl) ?_
          refine Xg.any_reads (iv (r.getD i default).fst) 6 1 (by kernel_rfl) rfl (by kernel_rfl) (by kernel_rfl) (by kernel_rfl) (by kernel_rfl) rfl rfl (by kernel_rfl) (Xg.cell_now (b := xb1) (off := ((0 : Nat))) 5 rfl (by kernel_rfl)) (fun _ h => Xg.run_load (by kernel_rfl) (by kernel_rfl) h) ?_
          refine Xg.any_reads (.pointer (some (Addr.mk (Xg.blk sa) (offA sa + k) none))) 7 2 (by kernel_rfl) rfl (by kernel_rfl) (by kernel_rfl) (by kernel_rfl) (by kernel_rfl) rfl rfl (by kernel_rfl) (Xg.rd_now 4 (Xg.reads_own (E := ((3 : TypeId))) (sz := ((1 : Nat))) (n := s.length) (c := sc) (a := sa) (vs := (List.map (Value.int IntKind.i64) s))) (by kernel_rfl)) (Xg.run_ix_rd (elem := 3) (kd := .i64) (e := ((↑k : Int))) 1 k (offA sa + k) (by kernel_rfl) (by kernel_rfl) (by kernel_rfl) (by kernel_rfl) rfl (by omega) (by simp only [List.length_map]; omega) (by omega)) ?_
          refine Xg.any_each [8] (by kernel_rfl) rfl ⟨?_, trivial⟩
          refine Xg.comes_act rfl (by kernel_rfl) (by kernel_rfl) (Xg.opx_store_own_i (a := sa) (off := (offA sa + k)) (kd := .i64) (xs := s) (e := ((r.getD i default).fst)) 4 (by kernel_rfl) rfl (by kernel_rfl) (by kernel_rfl) (by first | omega | (simp only [List.length_set]; omega)) ?_)
          refine Xg.acts (Xg.owes_skip (by kernel_rfl) (Xg.owes_skip (by kernel_rfl) (Xg.owes_skip (by kernel_rfl) Xg.owes_nil))) ?_
          refine Xg.any_nil (by kernel_rfl) ?_
          refine Xg.at_seq ?_
          refine Xg.at_region ?_
          refine Xg.ops_op (by kernel_rfl) (Xg.opx_pure ((pv xb1 0)) rfl (fun _ => by kernel_rfl) ?_)
          refine Xg.ops_op (by kernel_rfl) (Xg.opx_load (b := xb1) (off := ((0 : Nat))) 5 (iv (r.getD i default).fst) rfl (by kernel_rfl) (by kernel_rfl) (by kernel_rfl) ?_)
          refine Xg.ops_op (by kernel_rfl) (Xg.opx_pure ((iv (r.getD i default).fst)) rfl (fun _ => by kernel_rfl) ?_)
          refine Xg.ops_op (by kernel_rfl) (Xg.opx_pure ((iv 0)) rfl (fun _ => by kernel_rfl) ?_)
          refine Xg.ops_nil ?_
          refine Xg.at_ret_ps (v := (Value.tuple #[iv (r.getD i default).fst, iv 0])) [0, 2, 4] [row p (80 : TypeId) [Value.slice xa1 (r.eraseIdx i ++ [((r.getD i default).fst, true)]).length xc1, Value.slice sa s.length sc], recsO (82 : TypeId) (2 : Nat) mc xa1 xc1 (r.eraseIdx i ++ [((r.getD i default).fst, true)]), ownS (3 : TypeId) (1 : Nat) (Value.slice sa s.length sc) s.length (List.map (Value.int IntKind.i64) (s.set (offA sa + k) (r.getD i default).fst))] Go.Proofs.Try.func35 (fun _ => by kernel_rfl) (by kernel_rfl) (by kernel_rfl) ?_
          refine ⟨((xa1, xc1, sa, sc)), trivial, by kernel_rfl, ?_⟩)
        all_goals simp only [RH, SP, RR, recsO, ints, List.length_set, ee, hoff, Nat.zero_add]
    · have hb : (r.getD i default).2 = false := by simpa using hb
      have hf : free s (r.getD i default) = false := by unfold free; rw [hb]; rfl
      (focus
        refine Xg.at_seq ?_
        refine Xg.at_seq ?_
        refine Xg.at_region ?_
        refine Xg.ops_op (by kernel_rfl) (Xg.opx_pure ((iv (↑i : Int))) rfl (fun _ => by kernel_rfl) ?_)
        refine Xg.ops_op (by kernel_rfl) (Xg.opx_pure ((pv p 0)) rfl (fun _ => by kernel_rfl) ?_)
        refine Xg.ops_op (by kernel_rfl) (Xg.opx_pure ((pv p 0)) rfl (fun _ => by kernel_rfl) ?_)
        refine Xg.ops_op (by kernel_rfl) (Xg.opx_pure ((pv p 0)) rfl (fun _ => by kernel_rfl) ?_)
        refine Xg.ops_op (by kernel_rfl) (Xg.opx_load (b := p) (off := ((0 : Nat))) 0 (Value.slice ra r.length rc) rfl (by kernel_rfl) (by kernel_rfl) (by kernel_rfl) ?_)
        refine Xg.ops_op (by kernel_rfl) (Xg.opx_pure ((iv (↑r.length : Int))) rfl (fun _ => by kernel_rfl) ?_)
        refine Xg.ops_op (by kernel_rfl) (Xg.opx_pure (.bool (decide ((((↑i : Int)) : Int) < ((↑r.length : Int))))) rfl (fun _ => by kernel_rfl) ?_)
        refine Xg.ops_nil ?_
        refine Xg.at_true (t := decide (((↑i : Int) < (↑r.length : Int)))) (by kernel_rfl) (decide_eq_true (by omega)) ?_
        refine Xg.at_skip ?_
        refine Xg.at_seq ?_
        refine Xg.at_block ?_
        refine Xg.at_seq ?_
        refine Xg.at_region ?_
        refine Xg.ops_op (by kernel_rfl) (Xg.opx_pure ((pv p 0)) rfl (fun _ => by kernel_rfl) ?_)
        refine Xg.ops_op (by kernel_rfl) (Xg.opx_pure ((pv p 0)) rfl (fun _ => by kernel_rfl) ?_)
        refine Xg.ops_op (by kernel_rfl) (Xg.opx_pure ((pv p 0)) rfl (fun _ => by kernel_rfl) ?_)
        refine Xg.ops_op (by kernel_rfl) (Xg.opx_load (b := p) (off := ((0 : Nat))) 0 (Value.slice ra r.length rc) rfl (by kernel_rfl) (by kernel_rfl) (by kernel_rfl) ?_)
        refine Xg.ops_op (by kernel_rfl) (Xg.opx_pure ((iv (↑i : Int))) rfl (fun _ => by kernel_rfl) ?_)
        refine Xg.ops_op (by kernel_rfl) (Xg.opx_ix_own (elem := 82) (kd := .i64) (e := ((↑i : Int))) 1 2 i (i * (2 : Nat)) rfl (by kernel_rfl) (by kernel_rfl) (by kernel_rfl) (by kernel_rfl) rfl (by omega) (by omega) ?_)
        refine Xg.ops_op (by kernel_rfl) (Xg.opx_loadn_own (a := ra) (off := (i * (2 : Nat))) 2 1 [iv (r.getD i default).fst, Value.bool (r.getD i default).snd] (by kernel_rfl) rfl (by kernel_rfl) rfl (Xg.recs_at' (wd := 2) (fun _ => rfl) default i (by omega) (by omega) (by kernel_rfl)) (by kernel_rfl) ?_)
        refine Xg.ops_op (by kernel_rfl) (Xg.opx_new 2 [iv 0, Value.bool false] (by kernel_rfl) (by kernel_rfl) fun xb1 => ?_)
        refine Xg.ops_op (by kernel_rfl) (Xg.opx_storen 2 (off := 0) 0 [iv (r.getD i default).fst, Value.bool (r.getD i default).snd] (by kernel_rfl) rfl (by kernel_rfl) (by kernel_rfl) rfl (by kernel_rfl) (Nat.le_of_ble_eq_true (by kernel_rfl)) ?_)
        refine Xg.ops_nil ?_
        refine Xg.at_seq ?_)
      rw [hb]
      (focus
        refine Xg.at_region ?_
        refine Xg.ops_op (by kernel_rfl) (Xg.opx_pure ((pv p 0)) rfl (fun _ => by kernel_rfl) ?_)
        refine Xg.ops_op (by kernel_rfl) (Xg.opx_pure ((pv xb1 0)) rfl (fun _ => by kernel_rfl) ?_)
        refine Xg.ops_op (by kernel_rfl) (Xg.opx_load (b := xb1) (off := ((0 : Nat))) 0 (iv (r.getD i default).fst) rfl (by kernel_rfl) (by kernel_rfl) (by kernel_rfl) ?_)
        refine Xg.ops_op (by kernel_rfl) (Xg.opx_call1' [1, 3] [row p (80 : TypeId) [Value.slice ra r.length rc, Value.slice sa s.length sc], SP sa sc s, row xb1 (82 : Nat) [iv (r.getD i default).fst, Value.bool false], RR ra rc r] (fun _ => by kernel_rfl) (@hti ) (by kernel_rfl) (by kernel_rfl) (by kernel_rfl) ?_)
        refine Xg.ops_op (by kernel_rfl) (Xg.opx_pure ((Value.bool (decide ((0 : Int) ≤ fidx (fun (x : Int) => (r.getD i default).fst == x) s)))) rfl (fun _ => by kernel_rfl) ?_)
        refine Xg.ops_nil ?_
        refine Xg.at_seq ?_
        refine Xg.at_region ?_
        refine Xg.ops_op (by kernel_rfl) (Xg.opx_pure ((pv xb1 1)) rfl (fun _ => by kernel_rfl) ?_)
        refine Xg.ops_op (by kernel_rfl) (Xg.opx_load (b := xb1) (off := ((1 : Nat))) 2 (Value.bool false) rfl (by kernel_rfl) (by kernel_rfl) (by kernel_rfl) ?_)
        refine Xg.ops_op (by kernel_rfl) (Xg.opx_pure ((Value.bool false)) rfl (fun _ => by kernel_rfl) ?_)
        refine Xg.ops_skip (by kernel_rfl) ?_
        refine Xg.ops_skip (by kernel_rfl) ?_
        refine Xg.ops_op (by kernel_rfl) (Xg.opx_pure ((Value.bool false)) rfl (fun _ => by kernel_rfl) ?_)
        refine Xg.ops_nil ?_
        refine Xg.at_false (t := false) (by kernel_rfl) rfl ?_
        refine Xg.at_skip ?_
        refine Xg.at_inBlock ?_
        refine Xg.at_region ?_
        refine Xg.ops_op (by kernel_rfl) (Xg.opx_pure ((iv (↑i : Int))) rfl (fun _ => by kernel_rfl) ?_)
        refine Xg.ops_op (by kernel_rfl) (Xg.opx_int .i64 (IntKind.wrap .i64 (((↑i : Int) + (1 : Int)))) rfl (fun _ => by kernel_rfl) (Xg.wrap_i64_in (by omega)) ?_)
        refine Xg.ops_op (by kernel_rfl) (Xg.opx_pure ((iv ((↑i : Int) + (1 : Int)))) rfl (fun _ => by kernel_rfl) ?_)
        refine Xg.ops_nil ?_
        refine Xg.at_inLoop ?_)
      (focus
        refine Xg.at_keep [0, 3, 1] (by kernel_rfl) ?_
        refine Xs.same ?_ (fun J9 => ih (((i + 1)), J9) ?_ ?_) (by kernel_rfl))
      · rfl
      · refine ⟨hlt, fun j hj => ?_⟩
        by_cases e : j = i
        · rw [e]; exact hf
        · exact hno j (by omega)
      · dsimp only; omega
  · obtain rfl : i = r.length := by omega
    clear ih
    have e : next r s = -1 := fidx_end default r hno
    have eV : begV r s (k : Nat) = .tuple #[.int .i64 0, .int .i64 134] := by
      unfold begV; rw [Int.toNat_natCast, if_neg (by omega), if_pos (by omega)]
    have eR : begR r s (k : Nat) = r := by unfold begR; rw [if_neg (by omega)]
    have eS : begS r s (k : Nat) = s := by unfold begS; rw [if_neg (by omega)]
    rw [eV, eR, eS]
    (focus
      refine Xg.at_seq ?_
      refine Xg.at_seq ?_
      refine Xg.at_region ?_
      refine Xg.ops_op (by kernel_rfl) (Xg.opx_pure ((iv (↑r.length : Int))) rfl (fun _ => by kernel_rfl) ?_)
      refine Xg.ops_op (by kernel_rfl) (Xg.opx_pure ((pv p 0)) rfl (fun _ => by kernel_rfl) ?_)
      refine Xg.ops_op (by kernel_rfl) (Xg.opx_pure ((pv p 0)) rfl (fun _ => by kernel_rfl) ?_)
      refine Xg.ops_op (by kernel_rfl) (Xg.opx_pure ((pv p 0)) rfl (fun _ => by kernel_rfl) ?_)
      refine Xg.ops_op (by kernel_rfl) (Xg.opx_load (b := p) (off := ((0 : Nat))) 0 (Value.slice ra r.length rc) rfl (by kernel_rfl) (by kernel_rfl) (by kernel_rfl) ?_)
      refine Xg.ops_op (by kernel_rfl) (Xg.opx_pure ((iv (↑r.length : Int))) rfl (fun _ => by kernel_rfl) ?_)
      refine Xg.ops_op (by kernel_rfl) (Xg.opx_pure (.bool (decide ((((↑r.length : Int)) : Int) < ((↑r.length : Int))))) rfl (fun _ => by kernel_rfl) ?_)
      refine Xg.ops_nil ?_
      refine Xg.at_false (t := decide (((↑r.length : Int) < (↑r.length : Int)))) (by kernel_rfl) (decide_eq_false (by omega)) ?_
      refine Xg.at_exit rfl ?_
      refine Xg.at_seq ?_
      refine Xg.at_region ?_
      refine Xg.ops_op (by kernel_rfl) (Xg.opx_pure ((iv 0)) rfl (fun _ => by kernel_rfl) ?_)
      refine Xg.ops_op (by kernel_rfl) (Xg.opx_pure ((iv 134)) rfl (fun _ => by kernel_rfl) ?_)
      refine Xg.ops_nil ?_
      refine Xg.at_ret_ps (v := (Value.tuple #[iv 0, iv 134])) [0, 1, 2] [RH p ra r.length rc sa s.length sc, RR ra rc r, SP sa sc s] Go.Proofs.Try.func35 (fun _ => by kernel_rfl) (by kernel_rfl) (by kernel_rfl) ?_
      refine ⟨((ra, rc, sa, sc)), trivial, by kernel_rfl, by kernel_rfl⟩)
theorem newN_d (k : Int) (h : k < 1 ∨ 8 < k) : Does Try.prog 25 [.int .i64 k] [] (Ret (.tuple #[.pointer none, .int .i64 1]) []) := by
  rcases h with h | h
  · (focus
      refine Xg.spec_of Go.Proofs.Try.func25 rfl Go.Proofs.Try.ntmps25 fun g F => ?_)
    (focus
      refine Xg.at_seq ?_
      refine Xg.at_region ?_
      refine Xg.ops_op (by kernel_rfl) (Xg.opx_pure ((Value.pointer none)) rfl (fun _ => by kernel_rfl) ?_)
      refine Xg.ops_op (by kernel_rfl) (Xg.opx_pure ((iv 0)) rfl (fun _ => by kernel_rfl) ?_)
      refine Xg.ops_nil ?_
      refine Xg.at_seq ?_
      refine Xg.at_seq ?_
      refine Xg.at_region ?_
      refine Xg.ops_op (by kernel_rfl) (Xg.opx_pure ((iv k)) rfl (fun _ => by kernel_rfl) ?_)
      refine Xg.ops_op (by kernel_rfl) (Xg.opx_pure (.bool (decide ((k : Int) < ((1 : Int))))) rfl (fun _ => by kernel_rfl) ?_)
      refine Xg.ops_op (by kernel_rfl) (Xg.opx_pure ((Value.bool (decide (k < (1 : Int))))) rfl (fun _ => by kernel_rfl) ?_)
      refine Xg.ops_flag (j := 6) (c := (decide (k < (1 : Int)))) (by kernel_rfl) (fun _ => ?_) (fun xh1 => absurd (of_decide_eq_false xh1) (by omega))
      refine Xg.ops_skip (by kernel_rfl) ?_
      refine Xg.ops_skip (by kernel_rfl) ?_
      refine Xg.ops_op (by kernel_rfl) (Xg.opx_pure ((Value.bool true)) rfl (fun _ => by kernel_rfl) ?_)
      refine Xg.ops_nil ?_
      refine Xg.at_true (t := true) (by kernel_rfl) rfl ?_
      refine Xg.at_seq ?_
      refine Xg.at_region ?_
      refine Xg.ops_op (by kernel_rfl) (Xg.opx_pure ((Value.pointer none)) rfl (fun _ => by kernel_rfl) ?_)
      refine Xg.ops_op (by kernel_rfl) (Xg.opx_pure ((iv 1)) rfl (fun _ => by kernel_rfl) ?_)
      refine Xg.ops_nil ?_
      refine Xg.at_ret_ps (v := (Value.tuple #[Value.pointer none, iv 1])) [] [] Go.Proofs.Try.func25 (fun _ => by kernel_rfl) (by kernel_rfl) (by kernel_rfl) ?_
      exact ⟨by kernel_rfl, by kernel_rfl⟩)
  · (focus
      refine Xg.spec_of Go.Proofs.Try.func25 rfl Go.Proofs.Try.ntmps25 fun g F => ?_)
    (focus
      refine Xg.at_seq ?_
      refine Xg.at_region ?_
      refine Xg.ops_op (by kernel_rfl) (Xg.opx_pure ((Value.pointer none)) rfl (fun _ => by kernel_rfl) ?_)
      refine Xg.ops_op (by kernel_rfl) (Xg.opx_pure ((iv 0)) rfl (fun _ => by kernel_rfl) ?_)
      refine Xg.ops_nil ?_
      refine Xg.at_seq ?_
      refine Xg.at_seq ?_
      refine Xg.at_region ?_
      refine Xg.ops_op (by kernel_rfl) (Xg.opx_pure ((iv k)) rfl (fun _ => by kernel_rfl) ?_)
      refine Xg.ops_op (by kernel_rfl) (Xg.opx_pure (.bool (decide ((k : Int) < ((1 : Int))))) rfl (fun _ => by kernel_rfl) ?_)
      refine Xg.ops_op (by kernel_rfl) (Xg.opx_pure ((Value.bool (decide (k < (1 : Int))))) rfl (fun _ => by kernel_rfl) ?_)
      refine Xg.ops_flag (j := 6) (c := (decide (k < (1 : Int)))) (by kernel_rfl) (fun xh1 => absurd (of_decide_eq_true xh1) (by omega)) (fun _ => ?_)
      refine Xg.ops_op (by kernel_rfl) (Xg.opx_pure ((iv k)) rfl (fun _ => by kernel_rfl) ?_)
      refine Xg.ops_op (by kernel_rfl) (Xg.opx_pure (.bool (decide ((k : Int) > ((8 : Int))))) rfl (fun _ => by kernel_rfl) ?_)
      refine Xg.ops_flag (j := 8) (c := (decide (k > (8 : Int)))) (by kernel_rfl) (fun _ => ?_) (fun xh1 => absurd (of_decide_eq_false xh1) (by omega))
      refine Xg.ops_op (by kernel_rfl) (Xg.opx_pure ((Value.bool true)) rfl (fun _ => by kernel_rfl) ?_)
      refine Xg.ops_nil ?_
      refine Xg.at_true (t := true) (by kernel_rfl) rfl ?_
      refine Xg.at_seq ?_
      refine Xg.at_region ?_
      refine Xg.ops_op (by kernel_rfl) (Xg.opx_pure ((Value.pointer none)) rfl (fun _ => by kernel_rfl) ?_)
      refine Xg.ops_op (by kernel_rfl) (Xg.opx_pure ((iv 1)) rfl (fun _ => by kernel_rfl) ?_)
      refine Xg.ops_nil ?_
      refine Xg.at_ret_ps (v := (Value.tuple #[Value.pointer none, iv 1])) [] [] Go.Proofs.Try.func25 (fun _ => by kernel_rfl) (by kernel_rfl) (by kernel_rfl) ?_
      exact ⟨by kernel_rfl, by kernel_rfl⟩)
theorem rnewN_d (k : Int) (h : k < 1 ∨ 8 < k) : Does Try.prog 31 [.int .i64 k] [] (Ret (.tuple #[.pointer none, .int .i64 1]) []) := by
  rcases h with h | h
  · (focus
      refine Xg.spec_of Go.Proofs.Try.func31 rfl Go.Proofs.Try.ntmps31 fun g F => ?_)
    (focus
      refine Xg.at_seq ?_
      refine Xg.at_region ?_
      refine Xg.ops_op (by kernel_rfl) (Xg.opx_pure ((Value.pointer none)) rfl (fun _ => by kernel_rfl) ?_)
      refine Xg.ops_op (by kernel_rfl) (Xg.opx_pure ((iv 0)) rfl (fun _ => by kernel_rfl) ?_)
      refine Xg.ops_nil ?_
      refine Xg.at_seq ?_
      refine Xg.at_seq ?_
      refine Xg.at_region ?_
      refine Xg.ops_op (by kernel_rfl) (Xg.opx_pure ((iv k)) rfl (fun _ => by kernel_rfl) ?_)
      refine Xg.ops_op (by kernel_rfl) (Xg.opx_pure (.bool (decide ((k : Int) < ((1 : Int))))) rfl (fun _ => by kernel_rfl) ?_)
      refine Xg.ops_op (by kernel_rfl) (Xg.opx_pure ((Value.bool (decide (k < (1 : Int))))) rfl (fun _ => by kernel_rfl) ?_)
      refine Xg.ops_flag (j := 8) (c := (decide (k < (1 : Int)))) (by kernel_rfl) (fun _ => ?_) (fun xh1 => absurd (of_decide_eq_false xh1) (by omega))
      refine Xg.ops_skip (by kernel_rfl) ?_
      refine Xg.ops_skip (by kernel_rfl) ?_
      refine Xg.ops_op (by kernel_rfl) (Xg.opx_pure ((Value.bool true)) rfl (fun _ => by kernel_rfl) ?_)
      refine Xg.ops_nil ?_
      refine Xg.at_true (t := true) (by kernel_rfl) rfl ?_
      refine Xg.at_seq ?_
      refine Xg.at_region ?_
      refine Xg.ops_op (by kernel_rfl) (Xg.opx_pure ((Value.pointer none)) rfl (fun _ => by kernel_rfl) ?_)
      refine Xg.ops_op (by kernel_rfl) (Xg.opx_pure ((iv 1)) rfl (fun _ => by kernel_rfl) ?_)
      refine Xg.ops_nil ?_
      refine Xg.at_ret_ps (v := (Value.tuple #[Value.pointer none, iv 1])) [] [] Go.Proofs.Try.func31 (fun _ => by kernel_rfl) (by kernel_rfl) (by kernel_rfl) ?_
      exact ⟨by kernel_rfl, by kernel_rfl⟩)
  · (focus
      refine Xg.spec_of Go.Proofs.Try.func31 rfl Go.Proofs.Try.ntmps31 fun g F => ?_)
    (focus
      refine Xg.at_seq ?_
      refine Xg.at_region ?_
      refine Xg.ops_op (by kernel_rfl) (Xg.opx_pure ((Value.pointer none)) rfl (fun _ => by kernel_rfl) ?_)
      refine Xg.ops_op (by kernel_rfl) (Xg.opx_pure ((iv 0)) rfl (fun _ => by kernel_rfl) ?_)
      refine Xg.ops_nil ?_
      refine Xg.at_seq ?_
      refine Xg.at_seq ?_
      refine Xg.at_region ?_
      refine Xg.ops_op (by kernel_rfl) (Xg.opx_pure ((iv k)) rfl (fun _ => by kernel_rfl) ?_)
      refine Xg.ops_op (by kernel_rfl) (Xg.opx_pure (.bool (decide ((k : Int) < ((1 : Int))))) rfl (fun _ => by kernel_rfl) ?_)
      refine Xg.ops_op (by kernel_rfl) (Xg.opx_pure ((Value.bool (decide (k < (1 : Int))))) rfl (fun _ => by kernel_rfl) ?_)
      refine Xg.ops_flag (j := 8) (c := (decide (k < (1 : Int)))) (by kernel_rfl) (fun xh1 => absurd (of_decide_eq_true xh1) (by omega)) (fun _ => ?_)
      refine Xg.ops_op (by kernel_rfl) (Xg.opx_pure ((iv k)) rfl (fun _ => by kernel_rfl) ?_)
      refine Xg.ops_op (by kernel_rfl) (Xg.opx_pure (.bool (decide ((k : Int) > ((8 : Int))))) rfl (fun _ => by kernel_rfl) ?_)
      refine Xg.ops_flag (j := 10) (c := (decide (k > (8 : Int)))) (by kernel_rfl) (fun _ => ?_) (fun xh1 => absurd (of_decide_eq_false xh1) (by omega))
      refine Xg.ops_op (by kernel_rfl) (Xg.opx_pure ((Value.bool true)) rfl (fun _ => by kernel_rfl) ?_)
      refine Xg.ops_nil ?_
      refine Xg.at_true (t := true) (by kernel_rfl) rfl ?_
      refine Xg.at_seq ?_
      refine Xg.at_region ?_
      refine Xg.ops_op (by kernel_rfl) (Xg.opx_pure ((Value.pointer none)) rfl (fun _ => by kernel_rfl) ?_)
      refine Xg.ops_op (by kernel_rfl) (Xg.opx_pure ((iv 1)) rfl (fun _ => by kernel_rfl) ?_)
      refine Xg.ops_nil ?_
      refine Xg.at_ret_ps (v := (Value.tuple #[Value.pointer none, iv 1])) [] [] Go.Proofs.Try.func31 (fun _ => by kernel_rfl) (by kernel_rfl) (by kernel_rfl) ?_
      exact ⟨by kernel_rfl, by kernel_rfl⟩)
end Go.Proofs.Ytijjficnhpokdaa

/- A star over places: one part is taken out, changed, put back. Over any program. -/
namespace Go.Xg
open Go Go.Sl
set_option linter.unusedVariables false

def updF {α : Type _} (f : Nat → α) (i : Nat) (v : α) : Nat → α := fun j => if j = i then v else f j
def emp : HP := seps []
/-- One part a place. -/
def starN (n : Nat) (F : Nat → HP) : HP := seps ((List.range n).map F)

section
variable {g w : World} {L : List HP} {n k : Nat} {F : Nat → HP} {X : HP}
end
end Go.Xg

/- One part for each of a list; parts picked in order; a slot told in other words. Over any program. -/
namespace Go.Xg
open Go Go.Sl
set_option linter.unusedVariables false

/-- One part for each of a list. -/
def starL {α : Type} (f : α → HP) (l : List α) : HP := seps (l.map f)
section
variable {α : Type} {f : α → HP} {g w : World} {F : List HP} {l : List α}
theorem starL_perm {m : List α} (hp : l.Perm m) (h : SL g (starL f l :: F) w) : SL g (starL f m :: F) w :=
  SL.flat.2 ((SL.flat.1 h).perm ((hp.map f).append_right F))
theorem starL_cons {x : α} : SL g (starL f (x :: l) :: F) w ↔ SL g (f x :: starL f l :: F) w := SL.flat1
theorem starL_nil : SL g (starL f [] :: F) w ↔ SL g F w := SL.flat (K := [])
theorem starL_one {x : α} (h : SL g (f x :: starL f l :: F) w) : SL g (starL f (l ++ [x]) :: F) w :=
  starL_perm (l := x :: l) (List.perm_append_singleton x l).symm (starL_cons.2 h)
theorem eraseD_perm (d : α) (l : List α) (i : Nat) (h : i < l.length) : l.Perm (l.getD i d :: l.eraseIdx i) := by
  have e : l = l.take i ++ l.getD i d :: l.drop (i + 1) := by
    conv => lhs; rw [← List.take_append_drop i l]
    rw [List.drop_eq_getElem_cons h, List.getD_eq_getElem?_getD, List.getElem?_eq_getElem h]; rfl
  rw [List.eraseIdx_eq_take_drop_succ]
  conv => lhs; rw [e]
  exact List.perm_middle
theorem set_perm (l : List α) (i : Nat) (x : α) (h : i < l.length) : (l.set i x).Perm (x :: l.eraseIdx i) := by
  rw [List.set_eq_take_append_cons_drop, if_pos h, List.eraseIdx_eq_take_drop_succ]
  exact List.perm_middle
theorem starL_take (d : α) {i : Nat} (hi : i < l.length) (h : SL g (starL f l :: F) w) : SL g (f (l.getD i d) :: starL f (l.eraseIdx i) :: F) w :=
  starL_cons.1 (starL_perm (eraseD_perm d l i hi) h)
theorem starL_put {i : Nat} {x : α} (hi : i < l.length) (h : SL g (f x :: starL f (l.eraseIdx i) :: F) w) : SL g (starL f (l.set i x) :: F) w :=
  starL_perm (set_perm l i x hi).symm (starL_cons.2 h)
theorem starL_app {m : List α} : SL g (starL f (l ++ m) :: F) w ↔ SL g (starL f l :: starL f m :: F) w := by
  constructor
  · intro h
    have h1 := SL.flat.1 h
    rw [List.map_append, List.append_assoc] at h1
    refine SL.flat.2 ?_
    have h2 : SL g (starL f m :: (l.map f ++ F)) w := SL.flat.2 (h1.perm (by
      rw [← List.append_assoc, ← List.append_assoc]; exact List.perm_append_comm.append_right F))
    exact h2.perm List.perm_middle.symm
  · intro h
    have h1 := SL.flat.1 h
    have h2 : SL g (starL f m :: (l.map f ++ F)) w := h1.perm List.perm_middle
    have h3 := SL.flat.1 h2
    refine SL.flat.2 ?_
    rw [List.map_append, List.append_assoc]
    refine h3.perm ?_
    rw [← List.append_assoc, ← List.append_assoc]; exact List.perm_append_comm.append_right F
end
section
variable {P : Program} {f : FuncId} {g : World} {F : List HP} {R : Ending → World → Prop} {k : List Item} {T : List Value} {L : List HP}
theorem at_pick (is : List Nat) (hi : okPick is L.length = true) (h : At P f g F R k T (pick is L)) : At P f g F R k T L := h.sl fun w hS => sl_keep is hi hS
theorem at_L_take {α : Type} {cs : α → HP} {l : List α} (d : α) {i : Nat} (hi : i < l.length) (h : At P f g F R k T (cs (l.getD i d) :: starL cs (l.eraseIdx i) :: L)) : At P f g F R k T (starL cs l :: L) := h.sl fun w hS => starL_take d hi hS
theorem at_L_back {α : Type} {cs : α → HP} {l : List α} (d : α) {i : Nat} (hi : i < l.length) (h : At P f g F R k T (starL cs l :: L)) : At P f g F R k T (cs (l.getD i d) :: starL cs (l.eraseIdx i) :: L) := h.sl fun w hS => starL_perm (eraseD_perm d l i hi).symm (starL_cons.2 hS)
theorem at_L_put {α : Type} {cs : α → HP} {l : List α} {i : Nat} {x : α} (hi : i < l.length) (h : At P f g F R k T (starL cs (l.set i x) :: L)) : At P f g F R k T (cs x :: starL cs (l.eraseIdx i) :: L) := h.sl fun w hS => starL_put hi hS
end
end Go.Xg

/- The sched law's World: same, looks. -/
namespace Go.Proofs.Ytijjficnhpokdaa
open Go.Sl Go.Xg
set_option linter.unusedVariables false
set_option linter.unusedSimpArgs false
set_option linter.unusedSectionVars false
set_option linter.unnecessarySimpa false
set_option maxHeartbeats 4000000
set_option maxRecDepth 100000

/-- A list that came out: where, its room, its numbers. -/
abbrev ihK (z : Option Addr × Nat × List Int) : List Value := [.slice z.1 z.2.2.length z.2.1]
abbrev ihP (z : Option Addr × Nat × List Int) : HP := SP z.1 z.2.1 z.2.2
abbrev IH (a : Option Addr) (c : Nat) (l : List (Option Addr × Nat × List Int)) : HP := recsO 24 1 ihK a c l
/-- A list that came out, of just its room. -/
abbrev frK (z : Option Addr × List Int) : List Value := [.slice z.1 z.2.length z.2.length]
abbrev frP (z : Option Addr × List Int) : HP := SP z.1 z.2.length z.2
abbrev FH (a : Option Addr) (c : Nat) (l : List (Option Addr × List Int)) : HP := recsO 24 1 frK a c l
theorem same_d (a b : Option Addr) (c d : Nat) (l : List Int) (hl : l.length ≤ 100000) : Does Try.prog 24 [.slice a l.length c, .slice b l.length d] [SP a c l, SP b d l] (Ret (.bool true) [SP a c l, SP b d l]) := by
  (focus
    refine Xg.spec_of Go.Proofs.Try.func24 rfl Go.Proofs.Try.ntmps24 fun g F => ?_)
  (focus
    refine Xg.at_seq ?_
    refine Xg.at_region ?_
    refine Xg.ops_op (by kernel_rfl) (Xg.opx_pure ((Value.bool false)) rfl (fun _ => by kernel_rfl) ?_)
    refine Xg.ops_nil ?_
    refine Xg.at_seq ?_
    refine Xg.at_seq ?_
    refine Xg.at_region ?_
    refine Xg.ops_op (by kernel_rfl) (Xg.opx_pure ((Value.slice a l.length c)) rfl (fun _ => by kernel_rfl) ?_)
    refine Xg.ops_op (by kernel_rfl) (Xg.opx_pure ((iv (↑l.length : Int))) rfl (fun _ => by kernel_rfl) ?_)
    refine Xg.ops_op (by kernel_rfl) (Xg.opx_pure ((Value.slice b l.length d)) rfl (fun _ => by kernel_rfl) ?_)
    refine Xg.ops_op (by kernel_rfl) (Xg.opx_pure ((iv (↑l.length : Int))) rfl (fun _ => by kernel_rfl) ?_)
    refine Xg.ops_op (by kernel_rfl) (Xg.opx_pure (.bool (!decide ((((↑l.length : Int)) : Int) = ((↑l.length : Int))))) rfl (fun _ => by kernel_rfl) ?_)
    refine Xg.ops_nil ?_
    refine Xg.at_false (t := !decide (((↑l.length : Int) = (↑l.length : Int)))) (by kernel_rfl) (by rw [decide_eq_true (by omega)]; rfl) ?_
    refine Xg.at_skip ?_
    refine Xg.at_seq ?_
    refine Xg.at_seq ?_
    refine Xg.at_region ?_
    refine Xg.ops_op (by kernel_rfl) (Xg.opx_pure ((iv 0)) rfl (fun _ => by kernel_rfl) ?_)
    refine Xg.ops_nil ?_
    refine Xg.at_block ?_)
  (focus
    refine Xg.at_rounds_inv (α := (Nat) × (Nat → Value)) (fun x => ((fun i => i ≤ l.length) : (Nat) → Prop) x.1) (fun x => ((fun i => l.length - i) : (Nat) → Nat) x.1) (fun x => Xg.headT [Value.slice a l.length c, Value.slice b l.length d, tu, tu, Value.bool false, iv 0, Value.slice a l.length c, iv (↑l.length : Int), Value.slice b l.length d, iv (↑l.length : Int), Value.bool !decide ((↑l.length : Int) = (↑l.length : Int)), tu, tu, tu, tu, tu, tu, tu, tu, tu, tu, tu, tu, tu, tu, tu] [4, 11, 12, 13, 14, 15, 16, 17, 18, 19, 20, 21, 22, 23, 24, 25] (((fun i => [(5, .int .i64 (i : Nat))]) : (Nat) → List (Nat × Go.Value)) x.1) x.2) (fun x => ((fun i => [SP a c l, SP b d l]) : (Nat) → List Go.Sl.HP) x.1) ((0), fun j9 => ([Value.slice a l.length c, Value.slice b l.length d, tu, tu, Value.bool false, iv 0, Value.slice a l.length c, iv (↑l.length : Int), Value.slice b l.length d, iv (↑l.length : Int), Value.bool !decide ((↑l.length : Int) = (↑l.length : Int)), tu, tu, tu, tu, tu, tu, tu, tu, tu, tu, tu, tu, tu, tu, tu] : List Value).getD j9 undef) (by kernel_rfl) (by kernel_rfl) ?_ ?_)
  · exact Nat.zero_le _
  rintro ⟨i, J⟩ hi ih
  dsimp only at hi
  (focus
    refine Xg.At.same (T' := [Value.slice a l.length c, Value.slice b l.length d, tu, tu, J 4, iv (↑i : Int), Value.slice a l.length c, iv (↑l.length : Int), Value.slice b l.length d, iv (↑l.length : Int), Value.bool !decide ((↑l.length : Int) = (↑l.length : Int)), J 11, J 12, J 13, J 14, J 15, J 16, J 17, J 18, J 19, J 20, J 21, J 22, J 23, J 24, J 25]) (L' := [SP a c l, SP b d l]) (by kernel_rfl) rfl ?_)
  by_cases hlt : i < l.length
  · (focus
      refine Xg.at_seq ?_
      refine Xg.at_seq ?_
      refine Xg.at_region ?_
      refine Xg.ops_op (by kernel_rfl) (Xg.opx_pure ((iv (↑i : Int))) rfl (fun _ => by kernel_rfl) ?_)
      refine Xg.ops_op (by kernel_rfl) (Xg.opx_pure ((Value.slice a l.length c)) rfl (fun _ => by kernel_rfl) ?_)
      refine Xg.ops_op (by kernel_rfl) (Xg.opx_pure ((iv (↑l.length : Int))) rfl (fun _ => by kernel_rfl) ?_)
      refine Xg.ops_op (by kernel_rfl) (Xg.opx_pure (.bool (decide ((((↑i : Int)) : Int) < ((↑l.length : Int))))) rfl (fun _ => by kernel_rfl) ?_)
      refine Xg.ops_nil ?_
      refine Xg.at_true (t := decide (((↑i : Int) < (↑l.length : Int)))) (by kernel_rfl) (decide_eq_true (by omega)) ?_
      refine Xg.at_skip ?_
      refine Xg.at_seq ?_
      refine Xg.at_block ?_
      refine Xg.at_seq ?_
      refine Xg.at_draw [] [(2, [0, 1, 2, 4, 5, 6, 7], (RdIs (1 : Nat) (Value.slice a l.length c) l.length (List.map (Value.int IntKind.i64) l))), (3, [0, 1, 2, 3, 4, 5, 6, 7], (RdIs (1 : Nat) (Value.slice a l.length c) l.length (List.map (Value.int IntKind.i64) l))), (6, [0, 1, 2, 3, 4, 5, 6], (RdIs (1 : Nat) (Value.slice b l.length d) l.length (List.map (Value.int IntKind.i64) l))), (7, [0, 1, 2, 3, 4, 5, 6, 7], (RdIs (1 : Nat) (Value.slice b l.length d) l.length (List.map (Value.int IntKind.i64) l)))] (by kernel_rfl) ?_
      refine Xg.any_pure ((Value.slice a l.length c)) 0 (by kernel_rfl) rfl (by kernel_rfl) (by kernel_rfl) (by kernel_rfl) (by kernel_rfl) rfl (fun _ => by kernel_rfl) ?_
      refine Xg.any_pure ((iv (↑i : Int))) 1 (by kernel_rfl) rfl (by kernel_rfl) (by kernel_rfl) (by kernel_rfl) (by kernel_rfl) rfl (fun _ => by kernel_rfl) ?_
      refine Xg.any_reads (.pointer (some (Addr.mk (Xg.blk a) (offA a + i) none))) 2 0 (by kernel_rfl) rfl (by kernel_rfl) (by kernel_rfl) (by kernel_rfl) (by kernel_rfl) rfl rfl (by kernel_rfl) (Xg.rd_now 0 (Xg.reads_own (E := ((3 : TypeId))) (sz := ((1 : Nat))) (n := l.length) (c := c) (a := a) (vs := (List.map (Value.int IntKind.i64) l))) (by kernel_rfl)) (Xg.run_ix_rd (elem := 3) (kd := .i64) (e := ((↑i : Int))) 1 i (offA a + i) (by kernel_rfl) (by kernel_rfl) (by kernel_rfl) (by kernel_rfl) rfl (by omega) (by simp only [List.length_map]; omega) (by omega)) ?_
      refine Xg.any_reads (iv (l.getD i (0 : Int))) 3 1 (by kernel_rfl) rfl (by kernel_rfl) (by kernel_rfl) (by kernel_rfl) (by kernel_rfl) rfl rfl (by kernel_rfl) (Xg.rd_now 0 (Xg.reads_own (E := ((3 : TypeId))) (sz := ((1 : Nat))) (n := l.length) (c := c) (a := a) (vs := (List.map (Value.int IntKind.i64) l))) (by kernel_rfl)) (Xg.run_load_rd (off0 := (offA a + i)) i (by kernel_rfl) (by omega) (Xg.get_ints (by omega)) (by kernel_rfl)) ?_
      refine Xg.any_pure ((Value.slice b l.length d)) 4 (by kernel_rfl) rfl (by kernel_rfl) (by kernel_rfl) (by kernel_rfl) (by kernel_rfl) rfl (fun _ => by kernel_rfl) ?_
      refine Xg.any_pure ((iv (↑i : Int))) 5 (by kernel_rfl) rfl (by kernel_rfl) (by kernel_rfl) (by kernel_rfl) (by kernel_rfl) rfl (fun _ => by kernel_rfl) ?_
      refine Xg.any_reads (.pointer (some (Addr.mk (Xg.blk b) (offA b + i) none))) 6 2 (by kernel_rfl) rfl (by kernel_rfl) (by kernel_rfl) (by kernel_rfl) (by kernel_rfl) rfl rfl (by kernel_rfl) (Xg.rd_now 1 (Xg.reads_own (E := ((3 : TypeId))) (sz := ((1 : Nat))) (n := l.length) (c := d) (a := b) (vs := (List.map (Value.int IntKind.i64) l))) (by kernel_rfl)) (Xg.run_ix_rd (elem := 3) (kd := .i64) (e := ((↑i : Int))) 1 i (offA b + i) (by kernel_rfl) (by kernel_rfl) (by kernel_rfl) (by kernel_rfl) rfl (by omega) (by simp only [List.length_map]; omega) (by omega)) ?_
      refine Xg.any_reads (iv (l.getD i (0 : Int))) 7 3 (by kernel_rfl) rfl (by kernel_rfl) (by kernel_rfl) (by kernel_rfl) (by kernel_rfl) rfl rfl (by kernel_rfl) (Xg.rd_now 1 (Xg.reads_own (E := ((3 : TypeId))) (sz := ((1 : Nat))) (n := l.length) (c := d) (a := b) (vs := (List.map (Value.int IntKind.i64) l))) (by kernel_rfl)) (Xg.run_load_rd (off0 := (offA b + i)) i (by kernel_rfl) (by omega) (Xg.get_ints (by omega)) (by kernel_rfl)) ?_
      refine Xg.any_pure (.bool (!decide (((l.getD i (0 : Int)) : Int) = (l.getD i (0 : Int))))) 8 (by kernel_rfl) rfl (by kernel_rfl) (by kernel_rfl) (by kernel_rfl) (by kernel_rfl) rfl (fun _ => by kernel_rfl) ?_
      refine Xg.any_nil (by kernel_rfl) ?_
      refine Xg.at_false (t := !decide ((l.getD i (0 : Int) = l.getD i (0 : Int)))) (by kernel_rfl) (by rw [decide_eq_true (by omega)]; rfl) ?_
      refine Xg.at_skip ?_
      refine Xg.at_inBlock ?_
      refine Xg.at_region ?_
      refine Xg.ops_op (by kernel_rfl) (Xg.opx_pure ((iv (↑i : Int))) rfl (fun _ => by kernel_rfl) ?_)
      refine Xg.ops_op (by kernel_rfl) (Xg.opx_int .i64 (IntKind.wrap .i64 (((↑i : Int) + (1 : Int)))) rfl (fun _ => by kernel_rfl) (Xg.wrap_i64_in (by omega)) ?_)
      refine Xg.ops_op (by kernel_rfl) (Xg.opx_pure ((iv ((↑i : Int) + (1 : Int)))) rfl (fun _ => by kernel_rfl) ?_)
      refine Xg.ops_nil ?_
      refine Xg.at_inLoop ?_)
    (focus
      refine Xg.at_keep [0, 1] (by kernel_rfl) ?_
      refine Xs.same ?_ (fun J9 => ih (((i + 1)), J9) ?_ ?_) (by kernel_rfl))
    · rfl
    · exact hlt
    · dsimp only; omega
  · clear ih
    (focus
      refine Xg.at_seq ?_
      refine Xg.at_seq ?_
      refine Xg.at_region ?_
      refine Xg.ops_op (by kernel_rfl) (Xg.opx_pure ((iv (↑i : Int))) rfl (fun _ => by kernel_rfl) ?_)
      refine Xg.ops_op (by kernel_rfl) (Xg.opx_pure ((Value.slice a l.length c)) rfl (fun _ => by kernel_rfl) ?_)
      refine Xg.ops_op (by kernel_rfl) (Xg.opx_pure ((iv (↑l.length : Int))) rfl (fun _ => by kernel_rfl) ?_)
      refine Xg.ops_op (by kernel_rfl) (Xg.opx_pure (.bool (decide ((((↑i : Int)) : Int) < ((↑l.length : Int))))) rfl (fun _ => by kernel_rfl) ?_)
      refine Xg.ops_nil ?_
      refine Xg.at_false (t := decide (((↑i : Int) < (↑l.length : Int)))) (by kernel_rfl) (decide_eq_false (by omega)) ?_
      refine Xg.at_exit rfl ?_
      refine Xg.at_seq ?_
      refine Xg.at_region ?_
      refine Xg.ops_op (by kernel_rfl) (Xg.opx_pure ((Value.bool true)) rfl (fun _ => by kernel_rfl) ?_)
      refine Xg.ops_nil ?_
      refine Xg.at_ret_ps (v := (Value.bool true)) [0, 1] [SP a c l, SP b d l] Go.Proofs.Try.func24 (fun _ => by kernel_rfl) (by kernel_rfl) (by kernel_rfl) ?_
      exact ⟨by kernel_rfl, by kernel_rfl⟩)
/-- Each list is full of its mark. -/
def Marked (L : List (Option Addr × Nat × List Int)) (M : List Int) : Prop := L.length = M.length ∧ ∀ i, i < L.length → (L.getD i default).2.2.length ≤ 1000 ∧ ∀ k, k < (L.getD i default).2.2.length → (L.getD i default).2.2.getD k 0 = M.getD i 0
theorem looks_d (wb : Nat) (v1 v2 v3 : Value) (xa ma : Option Addr) (xc mcp : Nat) (Ls : List (Option Addr × Nat × List Int)) (Ms : List Int) (hM : Marked Ls Ms) (hl : Ls.length ≤ 1000000000) : Does Try.prog 21 [.pointer (some ⟨wb, 0, none⟩)] [row wb 50 [v1, v2, v3, .slice xa Ls.length xc, .slice ma Ms.length mcp], IH xa xc Ls, starL ihP Ls, SP ma mcp Ms]
    (Ret (.bool true) [row wb 50 [v1, v2, v3, .slice xa Ls.length xc, .slice ma Ms.length mcp], IH xa xc Ls, starL ihP Ls, SP ma mcp Ms]) := by
  obtain ⟨hM1, hM2⟩ := id hM
  (focus
    refine Xg.spec_of Go.Proofs.Try.func21 rfl Go.Proofs.Try.ntmps21 fun g F => ?_)
  (focus
    refine Xg.at_seq ?_
    refine Xg.at_region ?_
    refine Xg.ops_op (by kernel_rfl) (Xg.opx_pure ((Value.bool false)) rfl (fun _ => by kernel_rfl) ?_)
    refine Xg.ops_nil ?_
    refine Xg.at_seq ?_
    refine Xg.at_seq ?_
    refine Xg.at_region ?_
    refine Xg.ops_op (by kernel_rfl) (Xg.opx_pure ((iv 0)) rfl (fun _ => by kernel_rfl) ?_)
    refine Xg.ops_nil ?_
    refine Xg.at_block ?_)
  (focus
    refine Xg.at_keep [2, 0, 1, 3] (by kernel_rfl) ?_
    refine Xg.at_rounds_inv (α := (Nat) × (Nat → Value)) (fun x => ((fun i => i ≤ Ls.length) : (Nat) → Prop) x.1) (fun x => ((fun i => Ls.length - i) : (Nat) → Nat) x.1) (fun x => Xg.headT [pv wb 0, tu, Value.bool false, iv 0, tu, tu, tu, tu, tu, tu, tu, tu, tu, tu, tu, tu, tu, tu, tu, tu, tu, tu, tu, tu, tu, tu, tu, tu, tu, tu, tu, tu, tu, tu, tu, tu, tu, tu, tu, tu, tu, tu, tu, tu] [2, 4, 5, 6, 7, 8, 9, 10, 11, 12, 13, 14, 15, 16, 17, 18, 19, 20, 21, 22, 23, 24, 25, 26, 27, 28, 29, 30, 31, 32, 33, 34, 35, 36, 37, 38, 39, 40, 41, 42, 43] (((fun i => [(3, .int .i64 (i : Nat))]) : (Nat) → List (Nat × Go.Value)) x.1) x.2) (fun x => ((fun i => [starL ihP Ls, row wb 50 [v1, v2, v3, .slice xa Ls.length xc, .slice ma Ms.length mcp], IH xa xc Ls, SP ma mcp Ms]) : (Nat) → List Go.Sl.HP) x.1) ((0), fun j9 => ([pv wb 0, tu, Value.bool false, iv 0, tu, tu, tu, tu, tu, tu, tu, tu, tu, tu, tu, tu, tu, tu, tu, tu, tu, tu, tu, tu, tu, tu, tu, tu, tu, tu, tu, tu, tu, tu, tu, tu, tu, tu, tu, tu, tu, tu, tu, tu] : List Value).getD j9 undef) (by kernel_rfl) (by kernel_rfl) ?_ ?_)
  · exact Nat.zero_le _
  rintro ⟨i, J⟩ hi ih
  dsimp only at hi
  (focus
    refine Xg.At.same (T' := [pv wb 0, tu, J 2, iv (↑i : Int), J 4, J 5, J 6, J 7, J 8, J 9, J 10, J 11, J 12, J 13, J 14, J 15, J 16, J 17, J 18, J 19, J 20, J 21, J 22, J 23, J 24, J 25, J 26, J 27, J 28, J 29, J 30, J 31, J 32, J 33, J 34, J 35, J 36, J 37, J 38, J 39, J 40, J 41, J 42, J 43]) (L' := [starL ihP Ls, row wb (50 : TypeId) [v1, v2, v3, Value.slice xa Ls.length xc, Value.slice ma Ms.length mcp], IH xa xc Ls, SP ma mcp Ms]) (by kernel_rfl) rfl ?_)
  by_cases hlt : i < Ls.length
  · obtain ⟨h1, h2⟩ := hM2 i hlt
    (focus
      refine Xg.at_seq ?_
      refine Xg.at_seq ?_
      refine Xg.at_region ?_
      refine Xg.ops_op (by kernel_rfl) (Xg.opx_pure ((iv (↑i : Int))) rfl (fun _ => by kernel_rfl) ?_)
      refine Xg.ops_op (by kernel_rfl) (Xg.opx_pure ((pv wb 0)) rfl (fun _ => by kernel_rfl) ?_)
      refine Xg.ops_op (by kernel_rfl) (Xg.opx_pure ((pv wb 0)) rfl (fun _ => by kernel_rfl) ?_)
      refine Xg.ops_op (by kernel_rfl) (Xg.opx_pure ((pv wb 3)) rfl (fun _ => by kernel_rfl) ?_)
      refine Xg.ops_op (by kernel_rfl) (Xg.opx_load (b := wb) (off := ((3 : Nat))) 1 (Value.slice xa Ls.length xc) rfl (by kernel_rfl) (by kernel_rfl) (by kernel_rfl) ?_)
      refine Xg.ops_op (by kernel_rfl) (Xg.opx_pure ((iv (↑Ls.length : Int))) rfl (fun _ => by kernel_rfl) ?_)
      refine Xg.ops_op (by kernel_rfl) (Xg.opx_pure (.bool (decide ((((↑i : Int)) : Int) < ((↑Ls.length : Int))))) rfl (fun _ => by kernel_rfl) ?_)
      refine Xg.ops_nil ?_
      refine Xg.at_true (t := decide (((↑i : Int) < (↑Ls.length : Int)))) (by kernel_rfl) (decide_eq_true (by omega)) ?_
      refine Xg.at_skip ?_
      refine Xg.at_seq ?_
      refine Xg.at_block ?_
      refine Xg.at_seq ?_
      refine Xg.at_region ?_
      refine Xg.ops_op (by kernel_rfl) (Xg.opx_pure ((iv 0)) rfl (fun _ => by kernel_rfl) ?_)
      refine Xg.ops_nil ?_
      refine Xg.at_block ?_)
    (focus
      refine Xg.at_rounds_inv (α := (Nat) × (Nat → Value)) (fun x => ((fun k => k ≤ (Ls.getD i default).2.2.length) : (Nat) → Prop) x.1) (fun x => ((fun k => (Ls.getD i default).2.2.length - k) : (Nat) → Nat) x.1) (fun x => Xg.headT [pv wb 0, tu, J 2, iv (↑i : Int), iv 0, iv (↑i : Int), pv wb 0, pv wb 0, pv wb 3, Value.slice xa Ls.length xc, iv (↑Ls.length : Int), Value.bool (decide ((↑i : Int) < (↑Ls.length : Int))), J 12, J 13, J 14, J 15, J 16, J 17, J 18, J 19, J 20, J 21, J 22, J 23, J 24, J 25, J 26, J 27, J 28, J 29, J 30, J 31, J 32, J 33, J 34, J 35, J 36, J 37, J 38, J 39, J 40, J 41, J 42, J 43] [2, 14, 15, 16, 17, 18, 19, 20, 21, 22, 23, 24, 25, 26, 27, 28, 29, 30, 31, 32, 33, 34, 35, 36, 37, 38, 39, 40, 41, 42, 43] (((fun k => [(4, .int .i64 (k : Nat))]) : (Nat) → List (Nat × Go.Value)) x.1) x.2) (fun x => ((fun k => [starL ihP Ls, row wb 50 [v1, v2, v3, .slice xa Ls.length xc, .slice ma Ms.length mcp], IH xa xc Ls, SP ma mcp Ms]) : (Nat) → List Go.Sl.HP) x.1) ((0), fun j9 => ([pv wb 0, tu, J 2, iv (↑i : Int), iv 0, iv (↑i : Int), pv wb 0, pv wb 0, pv wb 3, Value.slice xa Ls.length xc, iv (↑Ls.length : Int), Value.bool (decide ((↑i : Int) < (↑Ls.length : Int))), J 12, J 13, J 14, J 15, J 16, J 17, J 18, J 19, J 20, J 21, J 22, J 23, J 24, J 25, J 26, J 27, J 28, J 29, J 30, J 31, J 32, J 33, J 34, J 35, J 36, J 37, J 38, J 39, J 40, J 41, J 42, J 43] : List Value).getD j9 undef) (by kernel_rfl) (by kernel_rfl) ?_ ?_)
    · exact Nat.zero_le _
    rintro ⟨k, J2⟩ hk ih2
    dsimp only at hk
    (focus
      refine Xg.At.same (T' := [pv wb 0, tu, J2 2, iv (↑i : Int), iv (↑k : Int), iv (↑i : Int), pv wb 0, pv wb 0, pv wb 3, Value.slice xa Ls.length xc, iv (↑Ls.length : Int), Value.bool (decide ((↑i : Int) < (↑Ls.length : Int))), J 12, J 13, J2 14, J2 15, J2 16, J2 17, J2 18, J2 19, J2 20, J2 21, J2 22, J2 23, J2 24, J2 25, J2 26, J2 27, J2 28, J2 29, J2 30, J2 31, J2 32, J2 33, J2 34, J2 35, J2 36, J2 37, J2 38, J2 39, J2 40, J2 41, J2 42, J2 43]) (L' := [starL ihP Ls, row wb (50 : TypeId) [v1, v2, v3, Value.slice xa Ls.length xc, Value.slice ma Ms.length mcp], IH xa xc Ls, SP ma mcp Ms]) (by kernel_rfl) rfl ?_)
    by_cases hkl : k < (Ls.getD i default).2.2.length
    · have h3 := h2 k hkl
      refine at_L_take default hlt ?_
      (focus
        refine Xg.at_seq ?_
        refine Xg.at_seq ?_
        refine Xg.at_region ?_
        refine Xg.ops_op (by kernel_rfl) (Xg.opx_pure ((iv (↑k : Int))) rfl (fun _ => by kernel_rfl) ?_)
        refine Xg.ops_op (by kernel_rfl) (Xg.opx_pure ((pv wb 0)) rfl (fun _ => by kernel_rfl) ?_)
        refine Xg.ops_op (by kernel_rfl) (Xg.opx_pure ((pv wb 0)) rfl (fun _ => by kernel_rfl) ?_)
        refine Xg.ops_op (by kernel_rfl) (Xg.opx_pure ((pv wb 3)) rfl (fun _ => by kernel_rfl) ?_)
        refine Xg.ops_op (by kernel_rfl) (Xg.opx_load (b := wb) (off := ((3 : Nat))) 2 (Value.slice xa Ls.length xc) rfl (by kernel_rfl) (by kernel_rfl) (by kernel_rfl) ?_)
        refine Xg.ops_op (by kernel_rfl) (Xg.opx_pure ((iv (↑i : Int))) rfl (fun _ => by kernel_rfl) ?_)
        refine Xg.ops_op (by kernel_rfl) (Xg.opx_ix_own (elem := 24) (kd := .i64) (e := ((↑i : Int))) 3 1 i i rfl (by kernel_rfl) (by kernel_rfl) (by kernel_rfl) (by kernel_rfl) rfl (by omega) (by omega) ?_)
        refine Xg.ops_op (by kernel_rfl) (Xg.opx_load_own (a := xa) (off := i) 3 (Value.slice (Ls.getD i default).fst (Ls.getD i default).snd.snd.length (Ls.getD i default).snd.fst) rfl (by kernel_rfl) (Xg.get_recs' (wd := 1) (fun _ => rfl) default i 0 (by omega) (by decide) (by omega) (by kernel_rfl)) (by kernel_rfl) ?_)
        refine Xg.ops_op (by kernel_rfl) (Xg.opx_pure ((iv (↑(Ls.getD i default).snd.snd.length : Int))) rfl (fun _ => by kernel_rfl) ?_)
        refine Xg.ops_op (by kernel_rfl) (Xg.opx_pure (.bool (decide ((((↑k : Int)) : Int) < ((↑(Ls.getD i default).snd.snd.length : Int))))) rfl (fun _ => by kernel_rfl) ?_)
        refine Xg.ops_nil ?_
        refine Xg.at_true (t := decide (((↑k : Int) < (↑(Ls.getD i default).snd.snd.length : Int)))) (by kernel_rfl) (decide_eq_true (by omega)) ?_
        refine Xg.at_skip ?_
        refine Xg.at_seq ?_
        refine Xg.at_block ?_
        refine Xg.at_seq ?_
        refine Xg.at_draw [] [(3, [0, 1, 2, 3, 4, 7, 10, 11, 12, 13, 14, 15, 16], Xg.CellIs (wb) (((3 : Nat))) ((Value.slice xa Ls.length xc))), (5, [0, 1, 2, 3, 4, 5, 7, 10, 11, 12, 13, 14, 15, 16], (RdIs (1 : Nat) (Value.slice xa Ls.length xc) Ls.length (recs ihK Ls))), (6, [0, 1, 2, 3, 4, 5, 6, 7, 10, 11, 12, 13, 14, 15, 16], (RdIs (1 : Nat) (Value.slice xa Ls.length xc) Ls.length (recs ihK Ls))), (8, [0, 1, 2, 3, 4, 5, 6, 7, 8, 10, 11, 12, 13, 14, 15, 16], (RdIs (1 : Nat) (Value.slice (Ls.getD i default).fst (Ls.getD i default).snd.snd.length (Ls.getD i default).snd.fst) (Ls.getD i default).snd.snd.length (List.map (Value.int IntKind.i64) (Ls.getD i default).snd.snd))), (9, [0, 1, 2, 3, 4, 5, 6, 7, 8, 9, 10, 11, 12, 13, 14, 15, 16], (RdIs (1 : Nat) (Value.slice (Ls.getD i default).fst (Ls.getD i default).snd.snd.length (Ls.getD i default).snd.fst) (Ls.getD i default).snd.snd.length (List.map (Value.int IntKind.i64) (Ls.getD i default).snd.snd))), (13, [0, 1, 2, 3, 4, 5, 6, 7, 8, 9, 10, 11, 12, 13, 14], Xg.CellIs (wb) (((4 : Nat))) ((Value.slice ma Ms.length mcp))), (15, [0, 1, 2, 3, 4, 5, 6, 7, 8, 9, 10, 11, 12, 13, 14, 15], (RdIs (1 : Nat) (Value.slice ma Ms.length mcp) Ms.length (List.map (Value.int IntKind.i64) Ms))), (16, [0, 1, 2, 3, 4, 5, 6, 7, 8, 9, 10, 11, 12, 13, 14, 15, 16], (RdIs (1 : Nat) (Value.slice ma Ms.length mcp) Ms.length (List.map (Value.int IntKind.i64) Ms)))] (by kernel_rfl) ?_
        refine Xg.any_pure ((pv wb 0)) 0 (by kernel_rfl) rfl (by kernel_rfl) (by kernel_rfl) (by kernel_rfl) (by kernel_rfl) rfl (fun _ => by kernel_rfl) ?_
        refine Xg.any_pure ((pv wb 0)) 1 (by kernel_rfl) rfl (by kernel_rfl) (by kernel_rfl) (by kernel_rfl) (by kernel_rfl) rfl (fun _ => by kernel_rfl) ?_
        refine Xg.any_pure ((pv wb 3)) 2 (by kernel_rfl) rfl (by kernel_rfl) (by kernel_rfl) (by kernel_rfl) (by kernel_rfl) rfl (fun _ => by kernel_rfl) ?_
        refine Xg.any_reads (Value.slice xa Ls.length xc) 3 0 (by kernel_rfl) rfl (by kernel_rfl) (by kernel_rfl) (by kernel_rfl) (by kernel_rfl) rfl rfl (by kernel_rfl) (Xg.cell_now (b := wb) (off := ((3 : Nat))) 2 rfl (by kernel_rfl)) (fun _ h => Xg.run_load (by kernel_rfl) (by kernel_rfl) h) ?_
        refine Xg.any_pure ((iv (↑i : Int))) 4 (by kernel_rfl) rfl (by kernel_rfl) (by kernel_rfl) (by kernel_rfl) (by kernel_rfl) rfl (fun _ => by kernel_rfl) ?_
        refine Xg.any_reads (.pointer (some (Addr.mk (Xg.blk xa) (offA xa + i) none))) 5 1 (by kernel_rfl) rfl (by kernel_rfl) (by kernel_rfl) (by kernel_rfl) (by kernel_rfl) rfl rfl (by kernel_rfl) (Xg.rd_now 3 (Xg.reads_own (E := ((24 : Nat))) (sz := ((1 : Nat))) (n := Ls.length) (c := xc) (a := xa) (vs := (recs ihK Ls))) (by kernel_rfl)) (Xg.run_ix_rd (elem := 24) (kd := .i64) (e := ((↑i : Int))) 1 i (offA xa + i) (by kernel_rfl) (by kernel_rfl) (by kernel_rfl) (by kernel_rfl) rfl (by omega) (by rw [Xg.recs_len (wd := 1) (fun _ => rfl)]; omega) (by omega)) ?_
        refine Xg.any_reads (Value.slice (Ls.getD i default).fst (Ls.getD i default).snd.snd.length (Ls.getD i default).snd.fst) 6 2 (by kernel_rfl) rfl (by kernel_rfl) (by kernel_rfl) (by kernel_rfl) (by kernel_rfl) rfl rfl (by kernel_rfl) (Xg.rd_now 3 (Xg.reads_own (E := ((24 : Nat))) (sz := ((1 : Nat))) (n := Ls.length) (c := xc) (a := xa) (vs := (recs ihK Ls))) (by kernel_rfl)) (Xg.run_load_rd (off0 := (offA xa + i)) i (by kernel_rfl) (by omega) (Xg.get_recs' (wd := 1) (fun _ => rfl) default i 0 (by omega) (by decide) (by omega) (by kernel_rfl)) (by kernel_rfl)) ?_
        refine Xg.any_pure ((iv (↑k : Int))) 7 (by kernel_rfl) rfl (by kernel_rfl) (by kernel_rfl) (by kernel_rfl) (by kernel_rfl) rfl (fun _ => by kernel_rfl) ?_
        refine Xg.any_reads (.pointer (some (Addr.mk (Xg.blk ((Ls.getD i default).fst)) (offA (Ls.getD i default).fst + k) none))) 8 3 (by kernel_rfl) rfl (by kernel_rfl) (by kernel_rfl) (by kernel_rfl) (by kernel_rfl) rfl rfl (by kernel_rfl) (Xg.rd_now 0 (Xg.reads_own (E := ((3 : TypeId))) (sz := ((1 : Nat))) (n := ((Ls.getD i default).snd.snd.length)) (c := ((Ls.getD i default).snd.fst)) (a := ((Ls.getD i default).fst)) (vs := (List.map (Value.int IntKind.i64) (Ls.getD i default).snd.snd))) (by kernel_rfl)) (Xg.run_ix_rd (elem := 3) (kd := .i64) (e := ((↑k : Int))) 1 k (offA (Ls.getD i default).fst + k) (by kernel_rfl) (by kernel_rfl) (by kernel_rfl) (by kernel_rfl) rfl (by omega) (by simp only [List.length_map]; omega) (by omega)) ?_
        refine Xg.any_reads (iv ((Ls.getD i default).snd.snd.getD k (0 : Int))) 9 4 (by kernel_rfl) rfl (by kernel_rfl) (by kernel_rfl) (by kernel_rfl) (by kernel_rfl) rfl rfl (by kernel_rfl) (Xg.rd_now 0 (Xg.reads_own (E := ((3 : TypeId))) (sz := ((1 : Nat))) (n := ((Ls.getD i default).snd.snd.length)) (c := ((Ls.getD i default).snd.fst)) (a := ((Ls.getD i default).fst)) (vs := (List.map (Value.int IntKind.i64) (Ls.getD i default).snd.snd))) (by kernel_rfl)) (Xg.run_load_rd (off0 := (offA (Ls.getD i default).fst + k)) k (by kernel_rfl) (by omega) (Xg.get_ints (by omega)) (by kernel_rfl)) ?_
        refine Xg.any_pure ((pv wb 0)) 10 (by kernel_rfl) rfl (by kernel_rfl) (by kernel_rfl) (by kernel_rfl) (by kernel_rfl) rfl (fun _ => by kernel_rfl) ?_
        refine Xg.any_pure ((pv wb 0)) 11 (by kernel_rfl) rfl (by kernel_rfl) (by kernel_rfl) (by kernel_rfl) (by kernel_rfl) rfl (fun _ => by kernel_rfl) ?_
        refine Xg.any_pure ((pv wb 4)) 12 (by kernel_rfl) rfl (by kernel_rfl) (by kernel_rfl) (by kernel_rfl) (by kernel_rfl) rfl (fun _ => by kernel_rfl) ?_
        refine Xg.any_reads (Value.slice ma Ms.length mcp) 13 5 (by kernel_rfl) rfl (by kernel_rfl) (by kernel_rfl) (by kernel_rfl) (by kernel_rfl) rfl rfl (by kernel_rfl) (Xg.cell_now (b := wb) (off := ((4 : Nat))) 2 rfl (by kernel_rfl)) (fun _ h => Xg.run_load (by kernel_rfl) (by kernel_rfl) h) ?_
        refine Xg.any_pure ((iv (↑i : Int))) 14 (by kernel_rfl) rfl (by kernel_rfl) (by kernel_rfl) (by kernel_rfl) (by kernel_rfl) rfl (fun _ => by kernel_rfl) ?_
        refine Xg.any_reads (.pointer (some (Addr.mk (Xg.blk ma) (offA ma + i) none))) 15 6 (by kernel_rfl) rfl (by kernel_rfl) (by kernel_rfl) (by kernel_rfl) (by kernel_rfl) rfl rfl (by kernel_rfl) (Xg.rd_now 4 (Xg.reads_own (E := ((3 : TypeId))) (sz := ((1 : Nat))) (n := Ms.length) (c := mcp) (a := ma) (vs := (List.map (Value.int IntKind.i64) Ms))) (by kernel_rfl)) (Xg.run_ix_rd (elem := 3) (kd := .i64) (e := ((↑i : Int))) 1 i (offA ma + i) (by kernel_rfl) (by kernel_rfl) (by kernel_rfl) (by kernel_rfl) rfl (by omega) (by simp only [List.length_map]; omega) (by omega)) ?_
        refine Xg.any_reads (iv (Ms.getD i (0 : Int))) 16 7 (by kernel_rfl) rfl (by kernel_rfl) (by kernel_rfl) (by kernel_rfl) (by kernel_rfl) rfl rfl (by kernel_rfl) (Xg.rd_now 4 (Xg.reads_own (E := ((3 : TypeId))) (sz := ((1 : Nat))) (n := Ms.length) (c := mcp) (a := ma) (vs := (List.map (Value.int IntKind.i64) Ms))) (by kernel_rfl)) (Xg.run_load_rd (off0 := (offA ma + i)) i (by kernel_rfl) (by omega) (Xg.get_ints (by omega)) (by kernel_rfl)) ?_
        refine Xg.any_pure (.bool (!decide ((((Ls.getD i default).snd.snd.getD k (0 : Int)) : Int) = (Ms.getD i (0 : Int))))) 17 (by kernel_rfl) rfl (by kernel_rfl) (by kernel_rfl) (by kernel_rfl) (by kernel_rfl) rfl (fun _ => by kernel_rfl) ?_
        refine Xg.any_nil (by kernel_rfl) ?_
        refine Xg.at_false (t := !decide (((Ls.getD i default).snd.snd.getD k (0 : Int) = Ms.getD i (0 : Int)))) (by kernel_rfl) (by rw [decide_eq_true (by omega)]; rfl) ?_
        refine Xg.at_skip ?_
        refine Xg.at_inBlock ?_
        refine Xg.at_region ?_
        refine Xg.ops_op (by kernel_rfl) (Xg.opx_pure ((iv (↑k : Int))) rfl (fun _ => by kernel_rfl) ?_)
        refine Xg.ops_op (by kernel_rfl) (Xg.opx_int .i64 (IntKind.wrap .i64 (((↑k : Int) + (1 : Int)))) rfl (fun _ => by kernel_rfl) (Xg.wrap_i64_in (by omega)) ?_)
        refine Xg.ops_op (by kernel_rfl) (Xg.opx_pure ((iv ((↑k : Int) + (1 : Int)))) rfl (fun _ => by kernel_rfl) ?_)
        refine Xg.ops_nil ?_
        refine Xg.at_inLoop ?_)
      refine at_L_back default hlt ?_
      (focus
        refine Xg.at_keep [0, 1, 2, 3] (by kernel_rfl) ?_
        refine Xs.same ?_ (fun J9 => ih2 (((k + 1)), J9) ?_ ?_) (by kernel_rfl))
      · rfl
      · exact hkl
      · dsimp only; omega
    · clear ih2
      (focus
        refine Xg.at_seq ?_
        refine Xg.at_seq ?_
        refine Xg.at_region ?_
        refine Xg.ops_op (by kernel_rfl) (Xg.opx_pure ((iv (↑k : Int))) rfl (fun _ => by kernel_rfl) ?_)
        refine Xg.ops_op (by kernel_rfl) (Xg.opx_pure ((pv wb 0)) rfl (fun _ => by kernel_rfl) ?_)
        refine Xg.ops_op (by kernel_rfl) (Xg.opx_pure ((pv wb 0)) rfl (fun _ => by kernel_rfl) ?_)
        refine Xg.ops_op (by kernel_rfl) (Xg.opx_pure ((pv wb 3)) rfl (fun _ => by kernel_rfl) ?_)
        refine Xg.ops_op (by kernel_rfl) (Xg.opx_load (b := wb) (off := ((3 : Nat))) 1 (Value.slice xa Ls.length xc) rfl (by kernel_rfl) (by kernel_rfl) (by kernel_rfl) ?_)
        refine Xg.ops_op (by kernel_rfl) (Xg.opx_pure ((iv (↑i : Int))) rfl (fun _ => by kernel_rfl) ?_)
        refine Xg.ops_op (by kernel_rfl) (Xg.opx_ix_own (elem := 24) (kd := .i64) (e := ((↑i : Int))) 2 1 i i rfl (by kernel_rfl) (by kernel_rfl) (by kernel_rfl) (by kernel_rfl) rfl (by omega) (by omega) ?_)
        refine Xg.ops_op (by kernel_rfl) (Xg.opx_load_own (a := xa) (off := i) 2 (Value.slice (Ls.getD i default).fst (Ls.getD i default).snd.snd.length (Ls.getD i default).snd.fst) rfl (by kernel_rfl) (Xg.get_recs' (wd := 1) (fun _ => rfl) default i 0 (by omega) (by decide) (by omega) (by kernel_rfl)) (by kernel_rfl) ?_)
        refine Xg.ops_op (by kernel_rfl) (Xg.opx_pure ((iv (↑(Ls.getD i default).snd.snd.length : Int))) rfl (fun _ => by kernel_rfl) ?_)
        refine Xg.ops_op (by kernel_rfl) (Xg.opx_pure (.bool (decide ((((↑k : Int)) : Int) < ((↑(Ls.getD i default).snd.snd.length : Int))))) rfl (fun _ => by kernel_rfl) ?_)
        refine Xg.ops_nil ?_
        refine Xg.at_false (t := decide (((↑k : Int) < (↑(Ls.getD i default).snd.snd.length : Int)))) (by kernel_rfl) (decide_eq_false (by omega)) ?_
        refine Xg.at_exit rfl ?_
        refine Xg.at_inBlock ?_
        refine Xg.at_region ?_
        refine Xg.ops_op (by kernel_rfl) (Xg.opx_pure ((iv (↑i : Int))) rfl (fun _ => by kernel_rfl) ?_)
        refine Xg.ops_op (by kernel_rfl) (Xg.opx_int .i64 (IntKind.wrap .i64 (((↑i : Int) + (1 : Int)))) rfl (fun _ => by kernel_rfl) (Xg.wrap_i64_in (by omega)) ?_)
        refine Xg.ops_op (by kernel_rfl) (Xg.opx_pure ((iv ((↑i : Int) + (1 : Int)))) rfl (fun _ => by kernel_rfl) ?_)
        refine Xg.ops_nil ?_
        refine Xg.at_inLoop ?_)
      (focus
        refine Xg.at_keep [0, 1, 2, 3] (by kernel_rfl) ?_
        refine Xs.same ?_ (fun J9 => ih (((i + 1)), J9) ?_ ?_) (by kernel_rfl))
      · rfl
      · exact hlt
      · dsimp only; omega
  · clear ih
    (focus
      refine Xg.at_seq ?_
      refine Xg.at_seq ?_
      refine Xg.at_region ?_
      refine Xg.ops_op (by kernel_rfl) (Xg.opx_pure ((iv (↑i : Int))) rfl (fun _ => by kernel_rfl) ?_)
      refine Xg.ops_op (by kernel_rfl) (Xg.opx_pure ((pv wb 0)) rfl (fun _ => by kernel_rfl) ?_)
      refine Xg.ops_op (by kernel_rfl) (Xg.opx_pure ((pv wb 0)) rfl (fun _ => by kernel_rfl) ?_)
      refine Xg.ops_op (by kernel_rfl) (Xg.opx_pure ((pv wb 3)) rfl (fun _ => by kernel_rfl) ?_)
      refine Xg.ops_op (by kernel_rfl) (Xg.opx_load (b := wb) (off := ((3 : Nat))) 1 (Value.slice xa Ls.length xc) rfl (by kernel_rfl) (by kernel_rfl) (by kernel_rfl) ?_)
      refine Xg.ops_op (by kernel_rfl) (Xg.opx_pure ((iv (↑Ls.length : Int))) rfl (fun _ => by kernel_rfl) ?_)
      refine Xg.ops_op (by kernel_rfl) (Xg.opx_pure (.bool (decide ((((↑i : Int)) : Int) < ((↑Ls.length : Int))))) rfl (fun _ => by kernel_rfl) ?_)
      refine Xg.ops_nil ?_
      refine Xg.at_false (t := decide (((↑i : Int) < (↑Ls.length : Int)))) (by kernel_rfl) (decide_eq_false (by omega)) ?_
      refine Xg.at_exit rfl ?_
      refine Xg.at_seq ?_
      refine Xg.at_region ?_
      refine Xg.ops_op (by kernel_rfl) (Xg.opx_pure ((Value.bool true)) rfl (fun _ => by kernel_rfl) ?_)
      refine Xg.ops_nil ?_
      refine Xg.at_ret_ps (v := (Value.bool true)) [1, 2, 0, 3] [row wb (50 : TypeId) [v1, v2, v3, Value.slice xa Ls.length xc, Value.slice ma Ms.length mcp], IH xa xc Ls, starL ihP Ls, SP ma mcp Ms] Go.Proofs.Try.func21 (fun _ => by kernel_rfl) (by kernel_rfl) (by kernel_rfl) ?_
      exact ⟨by kernel_rfl, by kernel_rfl⟩)
theorem take_d (wb : Nat) (v1 v4 v5 : Value) (fa wa : Option Addr) (fc wc : Nat) (Fr : List (Option Addr × List Int)) (Wa : List (Option Addr × Nat × List Int)) (hf : Fr.length ≤ 1000) (hw : Wa.length ≤ 1000) (a : Option Addr) (l : List Int) (hl : l.length ≤ 1000) : Does Try.prog 38 [.pointer (some ⟨wb, 0, none⟩), .slice a l.length l.length] [row wb 50 [v1, .slice fa Fr.length fc, .slice wa Wa.length wc, v4, v5], FH fa fc Fr, IH wa wc Wa, SP a l.length l]
    (RetE (fun x : (Option Addr × Nat) × (Option Addr × Nat) × (Option Addr × Nat) => True) (fun x => .tuple #[]) (fun x => [row wb 50 [v1, .slice x.1.1 (Fr ++ [(a, l)]).length x.1.2, .slice x.2.1.1 (Wa ++ [(x.2.2.1, x.2.2.2, l)]).length x.2.1.2, v4, v5], FH x.1.1 x.1.2 (Fr ++ [(a, l)]), IH x.2.1.1 x.2.1.2 (Wa ++ [(x.2.2.1, x.2.2.2, l)]), SP a l.length l, SP x.2.2.1 x.2.2.2 l])) := by
  (focus
    refine Xg.spec_of Go.Proofs.Try.func38 rfl Go.Proofs.Try.ntmps38 fun g F => ?_)
  (focus
    refine Xg.at_seq ?_
    refine Xg.at_region ?_
    refine Xg.ops_op (by kernel_rfl) (Xg.opx_pure ((pv wb 0)) rfl (fun _ => by kernel_rfl) ?_)
    refine Xg.ops_op (by kernel_rfl) (Xg.opx_pure ((pv wb 0)) rfl (fun _ => by kernel_rfl) ?_)
    refine Xg.ops_op (by kernel_rfl) (Xg.opx_pure ((pv wb 0)) rfl (fun _ => by kernel_rfl) ?_)
    refine Xg.ops_op (by kernel_rfl) (Xg.opx_pure ((pv wb 1)) rfl (fun _ => by kernel_rfl) ?_)
    refine Xg.ops_op (by kernel_rfl) (Xg.opx_load (b := wb) (off := ((1 : Nat))) 0 (Value.slice fa Fr.length fc) rfl (by kernel_rfl) (by kernel_rfl) (by kernel_rfl) ?_)
    refine Xg.ops_op (by kernel_rfl) (Xg.opx_pure ((Value.slice a l.length l.length)) rfl (fun _ => by kernel_rfl) ?_)
    refine Xg.ops_op (by kernel_rfl) (Xg.opx_bs (elem := 24) 1 [Value.slice a l.length l.length] [Value.slice a l.length l.length] (by kernel_rfl) (by kernel_rfl) (by decide) rfl (by kernel_rfl) (by kernel_rfl) (by kernel_rfl) (by kernel_rfl) fun xb1 => ?_)
    refine Xg.ops_op (by kernel_rfl) (Xg.opx_append_recs (elem := 24) (yv := (Value.slice (some (Addr.mk xb1 (0 : Nat) none)) (1 : Nat) (1 : Nat))) (l := Fr) 2 1 32 ((a, l)) rfl (by kernel_rfl) (by kernel_rfl) (by kernel_rfl) (by kernel_rfl) (fun _ hS => Xg.row_rd hS 0 rfl (by kernel_rfl)) (by kernel_rfl) (by first | omega | (simp only [List.length_nil]; omega) | (simp; done) | (simp; omega)) (by first | omega | (simp only [List.length_nil]; omega) | (simp; done) | (simp; omega)) fun xa1 xc1 => ?_)
    have xl1 : ((Fr : (List (Option Addr × List Int))) ++ ([((a, l))] : (List (Option Addr × List Int)))).length = (Fr : (List (Option Addr × List Int))).length + 1 := by simp
    refine Xg.ops_op (by kernel_rfl) (Xg.opx_pure ((pv wb 0)) rfl (fun _ => by kernel_rfl) ?_)
    refine Xg.ops_op (by kernel_rfl) (Xg.opx_pure ((pv wb 1)) rfl (fun _ => by kernel_rfl) ?_)
    refine Xg.ops_op (by kernel_rfl) (Xg.opx_store1 (off := 1) 1 (Value.slice xa1 (Fr ++ [(a, l)]).length xc1) (by kernel_rfl) rfl (by kernel_rfl) (by kernel_rfl) (by kernel_rfl) (Nat.le_of_ble_eq_true (by kernel_rfl)) ?_)
    refine Xg.ops_nil ?_
    refine Xg.at_draw [5, 7, 8, 9, 12] [(4, [0, 1, 2, 3, 4, 5, 6, 7, 8], Xg.CellIs (wb) (((2 : Nat))) ((Value.slice wa Wa.length wc)))] (by kernel_rfl) ?_
    refine Xg.any_pure ((pv wb 0)) 0 (by kernel_rfl) rfl (by kernel_rfl) (by kernel_rfl) (by kernel_rfl) (by kernel_rfl) rfl (fun _ => by kernel_rfl) ?_
    refine Xg.any_pure ((pv wb 0)) 1 (by kernel_rfl) rfl (by kernel_rfl) (by kernel_rfl) (by kernel_rfl) (by kernel_rfl) rfl (fun _ => by kernel_rfl) ?_
    refine Xg.any_pure ((pv wb 0)) 2 (by kernel_rfl) rfl (by kernel_rfl) (by kernel_rfl) (by kernel_rfl) (by kernel_rfl) rfl (fun _ => by kernel_rfl) ?_
    refine Xg.any_pure ((pv wb 2)) 3 (by kernel_rfl) rfl (by kernel_rfl) (by kernel_rfl) (by kernel_rfl) (by kernel_rfl) rfl (fun _ => by kernel_rfl) ?_
    refine Xg.any_reads (Value.slice wa Wa.length wc) 4 0 (by kernel_rfl) rfl (by kernel_rfl) (by kernel_rfl) (by kernel_rfl) (by kernel_rfl) rfl rfl (by kernel_rfl) (Xg.cell_now (b := wb) (off := ((2 : Nat))) 1 rfl (by kernel_rfl)) (fun _ h => Xg.run_load (by kernel_rfl) (by kernel_rfl) h) ?_
    refine Xg.any_pure ((Value.slice a l.length l.length)) 6 (by kernel_rfl) rfl (by kernel_rfl) (by kernel_rfl) (by kernel_rfl) (by kernel_rfl) rfl (fun _ => by kernel_rfl) ?_
    refine Xg.any_each [5] (by kernel_rfl) rfl ⟨?_, trivial⟩
    refine Xg.comes_act rfl (by kernel_rfl) (by kernel_rfl) (Xg.opx_bs (elem := 3) 1 [] [] (by kernel_rfl) (by kernel_rfl) (by decide) rfl (by kernel_rfl) (by kernel_rfl) (by kernel_rfl) (by kernel_rfl) fun xb2 => ?_)
    refine Xg.acts (Xg.owes_cell 2 rfl (by kernel_rfl) Xg.owes_nil) ?_
    refine Xg.any_row_ints 0 .i64 [] rfl rfl (Nat.le_of_ble_eq_true (by kernel_rfl)) ?_
    refine Xg.any_each [7] (by kernel_rfl) rfl ⟨?_, trivial⟩
    refine Xg.comes_act rfl (by kernel_rfl) (by kernel_rfl) (Xg.opx_append_ints (kd := .i64) (yv := (Value.slice a l.length l.length)) (m := l.length) (xs := []) (elem := 3) 0 8 l rfl (by kernel_rfl) (by kernel_rfl) (by kernel_rfl) (by kernel_rfl) (by first | rfl | assumption | omega | (simp; done) | (simp; omega)) (fun _ hS => Xg.own_rd hS 5 rfl) (by first | omega | (simp only [List.length_nil, List.length_cons]; omega) | (simp; omega)) (by first | omega | (simp only [List.length_nil, List.length_cons]; omega) | (simp; omega)) fun xa2 xc2 => ?_)
    have xl2 : ([] ++ l : List Int).length = ([] : List Int).length + l.length := by first | (simp; done) | (simp; omega)
    refine Xg.acts (Xg.owes_cell 2 rfl (by kernel_rfl) Xg.owes_nil) ?_
    refine Xg.any_each [8] (by kernel_rfl) rfl ⟨?_, trivial⟩
    refine Xg.comes_act rfl (by kernel_rfl) (by kernel_rfl) (Xg.opx_bs (elem := 24) 1 [Value.slice xa2 ([] ++ l).length xc2] [Value.slice xa2 ([] ++ l).length xc2] (by kernel_rfl) (by kernel_rfl) (by decide) rfl (by kernel_rfl) (by kernel_rfl) (by kernel_rfl) (by kernel_rfl) fun xb3 => ?_)
    refine Xg.acts (Xg.owes_cell 3 rfl (by kernel_rfl) Xg.owes_nil) ?_
    refine Xg.any_each [9] (by kernel_rfl) rfl ⟨?_, trivial⟩
    refine Xg.comes_act rfl (by kernel_rfl) (by kernel_rfl) (Xg.opx_append_recs (elem := 24) (yv := (Value.slice (some (Addr.mk xb3 (0 : Nat) none)) (1 : Nat) (1 : Nat))) (l := Wa) 5 1 32 ((xa2, xc2, [] ++ l)) rfl (by kernel_rfl) (by kernel_rfl) (by kernel_rfl) (by kernel_rfl) (fun _ hS => Xg.row_rd hS 0 rfl (by kernel_rfl)) (by kernel_rfl) (by first | omega | (simp only [List.length_nil]; omega) | (simp; done) | (simp; omega)) (by first | omega | (simp only [List.length_nil]; omega) | (simp; done) | (simp; omega)) fun xa3 xc3 => ?_)
    have xl3 : ((Wa : (List (Option Addr × Nat × List Int))) ++ ([((xa2, xc2, [] ++ l))] : (List (Option Addr × Nat × List Int)))).length = (Wa : (List (Option Addr × Nat × List Int))).length + 1 := by simp
    refine Xg.acts (Xg.owes_skip (by kernel_rfl) Xg.owes_nil) ?_
    refine Xg.any_pure ((pv wb 0)) 10 (by kernel_rfl) rfl (by kernel_rfl) (by kernel_rfl) (by kernel_rfl) (by kernel_rfl) rfl (fun _ => by kernel_rfl) ?_
    refine Xg.any_pure ((pv wb 2)) 11 (by kernel_rfl) rfl (by kernel_rfl) (by kernel_rfl) (by kernel_rfl) (by kernel_rfl) rfl (fun _ => by kernel_rfl) ?_
    refine Xg.any_each [12] (by kernel_rfl) rfl ⟨?_, trivial⟩
    refine Xg.comes_act rfl (by kernel_rfl) (by kernel_rfl) (Xg.opx_store1 (off := 2) 3 (Value.slice xa3 (Wa ++ [(xa2, xc2, [] ++ l)]).length xc3) (by kernel_rfl) rfl (by kernel_rfl) (by kernel_rfl) (by kernel_rfl) (Nat.le_of_ble_eq_true (by kernel_rfl)) ?_)
    refine Xg.acts (Xg.owes_skip (by kernel_rfl) Xg.owes_nil) ?_
    refine Xg.any_nil (by kernel_rfl) ?_
    refine Xg.at_end_ps (v := (tu)) [3, 4, 5, 6, 1] [row wb (50 : TypeId) [v1, Value.slice xa1 (Fr ++ [(a, l)]).length xc1, Value.slice xa3 (Wa ++ [(xa2, xc2, [] ++ l)]).length xc3, v4, v5], recsO (24 : TypeId) (1 : Nat) frK xa1 xc1 (Fr ++ [(a, l)]), recsO (24 : TypeId) (1 : Nat) ihK xa3 xc3 (Wa ++ [(xa2, xc2, [] ++ l)]), SP a l.length l, ints (3 : TypeId) IntKind.i64 xa2 xc2 ([] ++ l)] Go.Proofs.Try.func38 (fun _ => by kernel_rfl) (by kernel_rfl) (by kernel_rfl) ?_
    refine ⟨(((xa1, xc1), (xa3, xc3), xa2, xc2)), trivial, by kernel_rfl, by kernel_rfl⟩)
end Go.Proofs.Ytijjficnhpokdaa

/- append to a slice that is full: what was stays; append of several records. Over any program. -/
namespace Go.Xg
open Go Go.Sl
set_option linter.unusedVariables false
set_option linter.unusedSimpArgs false

section
variable {P : Program} {g : World} {F : List HP} {T : List Value} {L : List HP} {K : List Value → List HP → Prop}
/-- append to a full slice: it stays, and a new one comes. -/
theorem opx_append_full {d : Nat} {t ty elem : TypeId} {x y : Operand} {pos : String} {after : Array Edge} {gd : Option (Nat × Bool)} {yv : Value} {a : Option Addr} {n c m : Nat} {vs news : List Value} (sz B : Nat)
    (hu : slTy P t elem = true) (hE : okTyB P elem sz B = true) (hx : ev T x = .slice a n c) (hy : ev T y = yv) (ho : ∀ w, SL g (L ++ F) w → Rd w sz (.slice a n c) n vs) (hr : ∀ w, SL g (L ++ F) w → Rd w sz yv m news)
    (hlt : c < n + m) (hfit : (n + m) * B ≤ 140737488351232) (h63 : n + m ≤ 140737488351232) (hvl : vs.length = n * sz) (hnl : news.length = m * sz)
    (h : ∀ a' c', K (T.set d (.slice a' (n + m) c')) (ownS elem sz (.slice a' (n + m) c') (n + m) (vs ++ news) :: L)) :
    OpX P g F { dst := some d, op := .call { callee := .builtin .append, args := #[x, y], argTypes := #[t, t] }, type := ty, pos, after, guard := gd } T L K := by
  obtain ⟨z, by_, hE, hB⟩ := okTyB_el hE
  have hb : (n + m) * by_ ≤ (n + m) * B := Nat.mul_le_mul_left _ hB
  have hzs : z.cells.size = sz := by obtain ⟨_, _, _, _, _, h⟩ := hE; exact h
  constructor
  intro w hS
  have h63' : n + m ≤ maxLen := by unfold maxLen; omega
  have hrun := run_append_grow' w t ty elem z sz by_ (slTy_u hu) hE (.slice a n c) yv a c n m vs news rfl (ho w hS) (hr w hS) hlt h63' (by omega)
  refine op_value (exec_append _ (by rw [act_eval, act_eval, hx, hy]; exact hrun)) ⟨_, _, by rw [act_put]; rfl, ?_, h (some ⟨w.heap.size, 0, none⟩) (grownCap w (n + m) c elem)⟩
  refine SL.own_some (sp := (Builtin.zeroCells z.cells (grownCap w (n + m) c elem - (n + m))).toList) (hS.drew.alloc _) ?_ (grownCap_ge _ _ _ _) (grownCap_le_maxLen _ _ _ _ h63') ?_
  · rw [List.length_append, hvl, hnl, Nat.add_mul]
  · rw [zeroCells_list, hzs]
/-- The same, of integers. -/
theorem opx_append_full_ints {d : Nat} {t ty elem : TypeId} {x y : Operand} {pos : String} {after : Array Edge} {gd : Option (Nat × Bool)} {yv : Value} {a : Option Addr} {c m : Nat} {kd : IntKind} {xs ys : List Int} (B : Nat)
    (hu : slTy P t elem = true) (hE : okTyB P elem 1 B = true) (hx : ev T x = .slice a xs.length c) (hy : ev T y = yv) (hm : ys.length = m) (ho : ∀ w, SL g (L ++ F) w → Rd w 1 (.slice a xs.length c) xs.length (xs.map (Value.int kd))) (hr : ∀ w, SL g (L ++ F) w → Rd w 1 yv m (ys.map (Value.int kd)))
    (hlt : c < xs.length + m) (hfit : (xs.length + m) * B ≤ 140737488351232) (h63 : xs.length + m ≤ 140737488351232)
    (h : ∀ a' c', K (T.set d (.slice a' (xs ++ ys).length c')) (ints elem kd a' c' (xs ++ ys) :: L)) :
    OpX P g F { dst := some d, op := .call { callee := .builtin .append, args := #[x, y], argTypes := #[t, t] }, type := ty, pos, after, guard := gd } T L K := by
  refine opx_append_full 1 B hu hE hx hy ho hr hlt hfit h63 (by simp) (by simp [hm]) fun a' c' => ?_
  have h1 := h a' c'
  have e : (xs ++ ys).length = xs.length + m := by rw [List.length_append, hm]
  unfold ints at h1
  rwa [e, List.map_append] at h1
/-- append of several records. -/
theorem opx_append_recsN {α : Type} {cells : α → List Value} {d : Nat} {t ty elem : TypeId} {x y : Operand} {pos : String} {after : Array Edge} {gd : Option (Nat × Bool)} {yv : Value} {a : Option Addr} {c : Nat} {l : List α} (i sz B m : Nat) (rs : List α)
    (hL : nth L i = some (recsO elem sz cells a c l)) (hu : slTy P t elem = true) (hE : okTyB P elem sz B = true) (hx : ev T x = .slice a l.length c) (hy : ev T y = yv) (hm : rs.length = m) (hr : ∀ w, SL g (L ++ F) w → Rd w sz yv m (recs cells rs)) (h1 : (recs cells rs).all (·.oneCell') = true)
    (hfit : (l.length + m) * B ≤ 140737488351232) (h63 : l.length + m ≤ 140737488351232)
    (h : ∀ a' c', K (T.set d (.slice a' (l ++ rs).length c')) (L.set i (recsO elem sz cells a' c' (l ++ rs)))) :
    OpX P g F { dst := some d, op := .call { callee := .builtin .append, args := #[x, y], argTypes := #[t, t] }, type := ty, pos, after, guard := gd } T L K := by
  obtain ⟨z, by_, hE, hB⟩ := okTyB_el hE
  have hb : (l.length + m) * by_ ≤ (l.length + m) * B := Nat.mul_le_mul_left _ hB
  refine opx_append i sz by_ z hL hu hE hx hy hr (fun u hu => List.all_eq_true.1 h1 u hu) (by unfold maxLen; omega) (by omega) fun a' c' => ?_
  have h2 := h a' c'
  have e : (l ++ rs).length = l.length + m := by rw [List.length_append, hm]
  have e2 : recs cells (l ++ rs) = recs cells l ++ recs cells rs := by unfold recs; rw [List.flatMap_append]
  unfold recsO at h2
  rwa [e, e2] at h2
end
end Go.Xg
