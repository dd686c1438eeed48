/- Logs, in plain words. -/
import Derived.Test.YtjhaidbfahobmaaGrlog
import Derived.Test.YtjhaidbfahobmaaGrref
import Derived.WideShapes
import Derived.WalkKit
set_option linter.unusedVariables false
set_option linter.unusedSimpArgs false
namespace Go.Proofs.Ytjhaidbfahobmaa.S2
open Go
theorem u64w (n : Int) : IntKind.u64.wrap n = n % 18446744073709551616 := by
  simp [IntKind.wrap, IntKind.bits, IntKind.signed]
theorem i64w (n : Int) : IntKind.i64.wrap n = if 9223372036854775808 ≤ n % 18446744073709551616 then n % 18446744073709551616 - 18446744073709551616 else n % 18446744073709551616 := by
  simp [IntKind.wrap, IntKind.bits, IntKind.signed]
theorem u64id {n : Int} (h0 : 0 ≤ n) (h1 : n < 18446744073709551616) : IntKind.u64.wrap n = n := by rw [u64w]; omega
theorem i64id {n : Int} (h0 : -9223372036854775808 ≤ n) (h1 : n < 9223372036854775808) : IntKind.i64.wrap n = n := by rw [i64w]; split <;> omega

theorem c_t {α : Type} {b : Bool} {x y : α} (h : b = true) : cond b x y = x := by rw [h]; rfl
theorem c_f {α : Type} {b : Bool} {x y : α} (h : b = false) : cond b x y = y := by rw [h]; rfl
theorem cd_t {α : Type} {p : Prop} [Decidable p] {x y : α} (h : p) : cond (decide p) x y = x := c_t (decide_eq_true h)
theorem cd_f {α : Type} {p : Prop} [Decidable p] {x y : α} (h : ¬ p) : cond (decide p) x y = y := c_f (decide_eq_false h)
theorem cond_decide {α : Type} (p : Prop) [Decidable p] (x y : α) : cond (decide p) x y = if p then x else y := by by_cases h : p <;> simp [h]
theorem cond_eqi {α : Type} (a b : Int) (x y : α) : cond (a == b) x y = if a = b then x else y := by
  by_cases h : a = b
  · simp [h]
  · rw [beq_false_of_ne h, if_neg h]; rfl
theorem cond_nei {α : Type} (a b : Int) (x y : α) : cond (a != b) x y = if a = b then y else x := by
  by_cases h : a = b
  · simp [h]
  · rw [bne_iff_ne.2 h, if_neg h]; rfl

abbrev E := Int × Int × ByteArray
def E0 : E := (0, 0, ByteArray.empty)

/-- The entry at an index. -/
def entS (b : Int) (xs : List E) (i : Int) : E × Bool := if b < i ∧ i - b ≤ xs.length then (xs.getD (i - b - 1).toNat E0, true) else (E0, false)
def termS (b t : Int) (xs : List E) (i : Int) : Int × Bool := if i = b then (t, true) else ((entS b xs i).1.1, (entS b xs i).2)
def U (x : Int) : Prop := 0 ≤ x ∧ x < 18446744073709551616

theorem e_rlog_Entry {b t i : Int} {xs : List E} (hb : U b) (hi : U i) (hx : xs.length ≤ 140737488355328) :
    F_rlog_Entry ((b, t, xs, ()), i, ()) () = some ((((entS b xs i).1.1, (entS b xs i).1.2.1, (entS b xs i).1.2.2, ()), (entS b xs i).2, ()), ()) := by
  obtain ⟨hb0, hb1⟩ := hb
  obtain ⟨hi0, hi1⟩ := hi
  rw [Fe_rlog_Entry]
  unfold tree_rlog_Entry entS
  by_cases h1 : i ≤ b
  · rw [cd_t h1, if_neg (by omega)]; rfl
  · have e1 : IntKind.u64.wrap (i - b) = i - b := u64id (by omega) (by omega)
    have e2 : IntKind.u64.wrap (xs.length : Int) = xs.length := u64id (by omega) (by omega)
    have e3 : IntKind.u64.wrap (i - b - 1) = i - b - 1 := u64id (by omega) (by omega)
    rw [cd_f h1, e1, e2, e3]
    by_cases h2 : i - b > xs.length
    · rw [cd_t h2, if_neg (by omega)]; rfl
    · rw [cd_f h2, cd_t (by omega), cd_t (by omega), if_pos (by omega)]; rfl

theorem e_rlog_Term {b t i : Int} {xs : List E} (hb : U b) (hi : U i) (hx : xs.length ≤ 140737488355328) :
    F_rlog_Term ((b, t, xs, ()), i, ()) () = some (((termS b t xs i).1, (termS b t xs i).2, ()), ()) := by
  rw [Fe_rlog_Term]
  unfold tree_rlog_Term termS
  rw [cond_eqi, e_rlog_Entry hb hi hx]
  split <;> rfl

theorem e_rlog_Last {b t : Int} {xs : List E} (hb : 0 ≤ b) (hx : xs.length ≤ 140737488355328) (h : b + xs.length < 18446744073709551616) :
    F_rlog_Last ((b, t, xs, ()), ()) () = some (b + xs.length, ()) := by
  rw [Fe_rlog_Last]
  unfold tree_rlog_Last
  rw [u64id (n := (xs.length : Int)) (by omega) (by omega), u64id (by omega) h]

theorem e_with {b t : Int} {xs ys : List E} (hy : ys.length * 32 ≤ 140737488355328) : F_rlog_with ((b, t, xs, ()), ys, ()) () = some ((b, t, ys, ()), ()) := by
  rw [Fe_rlog_with]
  unfold tree_rlog_with
  have : F_s_Clone_aE (ys, ()) () = some (ys, ()) := by
    unfold F_s_Clone_aE
    rw [cd_t hy]
  rw [this]
  rfl

theorem e_Concat {x y : List E} (h : (x.length + y.length) * 32 ≤ 140737488355328) : F_s_Concat_aE ([] ++ [x] ++ [y], ()) () = some (x ++ y, ()) := by
  rw [Fe_s_Concat_aE]
  unfold tree_s_Concat_aE
  have w0 : IntKind.i64.wrap (0 + (x.length : Int)) = x.length := by rw [i64id] <;> omega
  have w1 : IntKind.i64.wrap ((x.length : Int) + y.length) = x.length + y.length := by rw [i64id] <;> omega
  have i0 : IntKind.i64.wrap (0 + 1) = 1 := by decide
  have i1 : IntKind.i64.wrap (1 + 1) = 2 := by decide
  have hL : L_s_Concat_aE_3 ([x, y], 0, [x, y], 2, 0, ()) () = some (([x, y], (x.length : Int) + y.length, ()), ()) := by
    rw [Le_s_Concat_aE_3]
    unfold ltree_s_Concat_aE_3
    rw [cd_t (by decide), cd_t (by decide), cd_t (by simp)]
    simp only [Int.toNat_zero, List.getD_cons_zero, w0, i0]
    rw [cd_f (by omega), Le_s_Concat_aE_3]
    unfold ltree_s_Concat_aE_3
    rw [cd_t (by decide), cd_t (by decide), cd_t (by simp)]
    simp only [show Int.toNat 1 = 1 from rfl, List.getD_cons_succ, List.getD_cons_zero, w1, i1]
    rw [cd_f (by omega), Le_s_Concat_aE_3]
    unfold ltree_s_Concat_aE_3
    rw [cd_f (by decide)]
  have hM : L_s_Concat_aE_11 ([x, y], 2, 0, ()) ([], ()) = some ((), (x ++ y, ())) := by
    rw [Le_s_Concat_aE_11]
    unfold ltree_s_Concat_aE_11
    rw [cd_t (by decide), cd_t (by decide), cd_t (by simp)]
    simp only [Int.toNat_zero, List.getD_cons_zero, i0, List.nil_append, List.length_nil, Nat.zero_add]
    rw [cd_t (by omega), Le_s_Concat_aE_11]
    unfold ltree_s_Concat_aE_11
    rw [cd_t (by decide), cd_t (by decide), cd_t (by simp)]
    simp only [show Int.toNat 1 = 1 from rfl, List.getD_cons_succ, List.getD_cons_zero, i1]
    rw [cd_t h, Le_s_Concat_aE_11]
    unfold ltree_s_Concat_aE_11
    rw [cd_f (by decide)]
  have hl : (([] ++ [x] ++ [y] : List (List E)).length : Int) = 2 := rfl
  have hl2 : (([x, y] : List (List E)).length : Int) = 2 := rfl
  have hll : ([] ++ [x] ++ [y] : List (List E)) = [x, y] := rfl
  rw [hl, hll, hL]
  simp only [Option.bind_some]
  have hG : ∃ z, F_s_Grow_aE ((x.length : Int) + y.length, ()) () = some z ∧ (∀ u, z = .inl u → True) := by
    rw [Fe_s_Grow_aE]
    unfold tree_s_Grow_aE
    rw [cd_f (by omega)]
    have w2 : IntKind.i64.wrap ((x.length : Int) + y.length - 0) = x.length + y.length := by rw [i64id] <;> omega
    simp only [w2]
    by_cases h0 : (x.length : Int) + y.length > 0
    · rw [cd_t h0, cd_t h0, cd_t (by omega)]
      exact ⟨_, rfl, fun _ _ => trivial⟩
    · rw [cd_f h0]
      exact ⟨_, rfl, fun _ _ => trivial⟩
  obtain ⟨z, hz, _⟩ := hG
  rw [hz]
  cases z <;> simp only [Option.bind_some, Sum.elim_inl, Sum.elim_inr, List.take_zero, hl2, hM]


theorem bytes_beq (a b : ByteArray) : (a.toList == b.toList) = decide (a = b) := by
  rw [ByteArray.toList_eq, ByteArray.toList_eq, Bool.eq_iff_iff, beq_iff_eq, decide_eq_true_eq]
  exact ⟨fun h => WideShapes.bytes_inj h, fun h => by rw [h]⟩

theorem ent_ne (a b : E) : (true ^^ (a.1 == b.1 && (a.2.1 == b.2.1 && (a.2.2.toList == b.2.2.toList && true)))) = decide (a ≠ b) := by
  obtain ⟨a1, a2, a3⟩ := a
  obtain ⟨b1, b2, b3⟩ := b
  rw [bytes_beq]
  by_cases h1 : a1 = b1
  · by_cases h2 : a2 = b2
    · by_cases h3 : a3 = b3 <;> simp [h1, h2, h3]
    · simp [h1, h2]
  · simp [h1]

theorem Entries_loop (x y : List E) (hl : x.length = y.length) (hx : x.length ≤ 140737488355328) : ∀ (d k : Nat), k + d = x.length → 
    L_ref15_Entries_4 (x, y, (k : Int), ()) () = if x.drop k = y.drop k then some (.inr ((), ())) else some (.inl ((false, ()), ()))
  | 0, k, h => by
    rw [Le_ref15_Entries_4]
    unfold ltree_ref15_Entries_4
    rw [cd_f (by omega), List.drop_of_length_le (by omega), List.drop_of_length_le (by omega)]
    rfl
  | d + 1, k, h => by
    rw [Le_ref15_Entries_4]
    unfold ltree_ref15_Entries_4
    have hk : k < x.length := by omega
    have hk' : k < y.length := by omega
    rw [cd_t (by omega), cd_t (by omega), cd_t (by omega), cd_t (by omega), cd_t (by omega), Int.toNat_natCast, ent_ne, cond_decide]
    have e1 : x.getD k (0, 0, ByteArray.empty) = x[k] := by simp [List.getD, hk]
    have e2 : y.getD k (0, 0, ByteArray.empty) = y[k] := by simp [List.getD, hk']
    rw [e1, e2, i64id (n := (k : Int) + 1) (by omega) (by omega)]
    rw [List.drop_eq_getElem_cons hk, List.drop_eq_getElem_cons hk']
    by_cases h1 : x[k] = y[k]
    · rw [if_neg (by simp [h1])]
      have := Entries_loop x y hl hx d (k + 1) (by omega)
      rw [show ((k : Int) + 1) = ((k + 1 : Nat) : Int) by omega, this]
      by_cases h2 : x.drop (k + 1) = y.drop (k + 1)
      · rw [if_pos h2, if_pos (by rw [h1, h2])]
      · rw [if_neg h2, if_neg (fun h => h2 (List.cons.inj h).2)]
    · rw [if_pos h1, if_neg (fun h => h1 (List.cons.inj h).1)]

theorem e_Entries {x y : List E} (hx : x.length ≤ 140737488355328) (hy : y.length ≤ 140737488355328) : F_ref15_Entries (x, y, ()) () = some (decide (x = y), ()) := by
  rw [Fe_ref15_Entries]
  unfold tree_ref15_Entries
  rw [cond_nei]
  by_cases hl : x.length = y.length
  · rw [if_pos (by omega)]
    have := Entries_loop x y hl hx x.length 0 (by omega)
    rw [show ((0 : Nat) : Int) = 0 from rfl] at this
    rw [this]
    simp only [List.drop_zero]
    by_cases h : x = y
    · rw [if_pos h, decide_eq_true h]; rfl
    · rw [if_neg h, decide_eq_false h]; rfl
  · rw [if_neg (by omega), decide_eq_false (fun h => hl (by rw [h]))]

theorem e_May {b t : Int} {x : List E} : F_ref15_May ((b, t, x, ()), ()) () = some (decide (b ≤ 4611686018427387904 ∧ x.length ≤ 256), ()) := by
  rw [Fe_ref15_May]
  unfold tree_ref15_May
  rw [cond_decide]
  by_cases h1 : b ≤ 4611686018427387904
  · rw [if_pos h1]
    have : decide ((x.length : Int) ≤ 256) = decide (b ≤ 4611686018427387904 ∧ x.length ≤ 256) := by
      rw [Bool.eq_iff_iff]; simp [h1]; omega
    rw [this]
  · rw [if_neg h1, decide_eq_false (by omega)]

/-! ### the document's -/

theorem Entry_loop (b t i z1 z2 : Int) (z3 : ByteArray) (xs : List E) (hb : 0 ≤ b) (hx : b + xs.length < 18446744073709551616) (hx2 : xs.length ≤ 140737488355328) : ∀ (d k : Nat), k + d = xs.length → 
    L_ref15_Entry_2 (i, (k : Int), ()) ((b, t, xs, ()), (z1, z2, z3, ()), ()) =
      if b + k < i ∧ i - b ≤ xs.length then some (.inl ((true, ()), (((xs.getD (i - b - 1).toNat E0).1, (xs.getD (i - b - 1).toNat E0).2.1, (xs.getD (i - b - 1).toNat E0).2.2, ()), ())))
      else some (.inr ((), ((z1, z2, z3, ()), ())))
  | 0, k, h => by
    rw [Le_ref15_Entry_2]
    unfold ltree_ref15_Entry_2
    rw [cd_f (by omega), if_neg (by omega)]
  | d + 1, k, h => by
    rw [Le_ref15_Entry_2]
    unfold ltree_ref15_Entry_2
    have hk : k < xs.length := by omega
    have e1 : IntKind.u64.wrap (k : Int) = k := u64id (by omega) (by omega)
    have e2 : IntKind.u64.wrap (b + k) = b + k := u64id (by omega) (by omega)
    have e3 : IntKind.u64.wrap (b + k + 1) = b + k + 1 := u64id (by omega) (by omega)
    have e4 : IntKind.i64.wrap ((k : Int) + 1) = ((k + 1 : Nat) : Int) := by rw [i64id] <;> omega
    rw [cd_t (by omega), e1, e2, e3, cond_eqi, cd_t (by omega), cd_t (by omega), e4, Entry_loop b t i z1 z2 z3 xs hb hx hx2 d (k + 1) (by omega)]
    by_cases h1 : b + k + 1 = i
    · rw [if_pos h1, if_pos (by omega)]
      rw [show (i - b - 1).toNat = k by omega, Int.toNat_natCast]
      rfl
    · rw [if_neg h1]
      by_cases h2 : b + (k + 1 : Nat) < i ∧ i - b ≤ xs.length
      · rw [if_pos h2, if_pos (by omega)]
      · rw [if_neg h2, if_neg (by omega)]

theorem e_ref_Entry {b t i : Int} {xs : List E} (hb : 0 ≤ b) (hx : b + xs.length < 18446744073709551616) (hx2 : xs.length ≤ 140737488355328) :
    F_ref15_Entry ((b, t, xs, ()), i, ()) () = some ((((entS b xs i).1.1, (entS b xs i).1.2.1, (entS b xs i).1.2.2, ()), (entS b xs i).2, ()), ()) := by
  rw [Fe_ref15_Entry]
  unfold tree_ref15_Entry
  have := Entry_loop b t i 0 0 ByteArray.empty xs hb hx hx2 xs.length 0 (by omega)
  rw [show ((0 : Nat) : Int) = 0 from rfl] at this
  rw [this]
  unfold entS
  by_cases h : b + 0 < i ∧ i - b ≤ xs.length
  · rw [if_pos h, if_pos (by omega)]; rfl
  · rw [if_neg h, if_neg (by omega)]; rfl

theorem e_ref_Term {b t i : Int} {xs : List E} (hb : 0 ≤ b) (hx : b + xs.length < 18446744073709551616) (hx2 : xs.length ≤ 140737488355328) :
    F_ref15_Term ((b, t, xs, ()), i, ()) () = some (((termS b t xs i).1, (termS b t xs i).2, ()), ()) := by
  rw [Fe_ref15_Term]
  unfold tree_ref15_Term termS
  rw [cond_eqi, e_ref_Entry hb hx hx2]
  split <;> rfl

theorem e_ref_Last {b t : Int} {xs : List E} (hb : 0 ≤ b) (hx : xs.length ≤ 140737488355328) (h : b + xs.length < 18446744073709551616) :
    F_ref15_Last ((b, t, xs, ()), ()) () = some (b + xs.length, ()) := by
  rw [Fe_ref15_Last]
  unfold tree_ref15_Last
  rw [u64id (n := (xs.length : Int)) (by omega) (by omega), u64id (by omega) h]

def newerS (b t : Int) (xs : List E) (last term : Int) : Bool :=
  decide (term > (termS b t xs (b + xs.length)).1 ∨ (term = (termS b t xs (b + xs.length)).1 ∧ last ≥ b + xs.length))

theorem e_Newer {b t last term : Int} {xs : List E} (hb : 0 ≤ b ∧ b ≤ 4611686018427387904) (hx : xs.length ≤ 140737488355328) :
    F_rlog_Newer ((b, t, xs, ()), last, term, ()) () = some (newerS b t xs last term, ()) := by
  rw [Fe_rlog_Newer]
  unfold tree_rlog_Newer newerS
  rw [e_rlog_Last hb.1 hx (by omega)]
  simp only [Option.bind_some]
  rw [e_rlog_Term ⟨hb.1, by omega⟩ ⟨by omega, by omega⟩ hx]
  simp only [Option.bind_some]
  rw [cond_decide, cond_eqi]
  generalize (termS b t xs (b + xs.length)).1 = own
  by_cases h1 : term > own
  · rw [if_pos h1, decide_eq_true (.inl h1)]
  · rw [if_neg h1]
    by_cases h2 : term = own
    · rw [if_pos h2]
      congr 2
      rw [Bool.eq_iff_iff, decide_eq_true_eq, decide_eq_true_eq]
      omega
    · rw [if_neg h2, decide_eq_false (by omega)]

theorem e_ref_Newer {b t last term : Int} {xs : List E} (hb : 0 ≤ b ∧ b ≤ 4611686018427387904) (hx : xs.length ≤ 140737488355328) :
    F_ref15_Newer ((b, t, xs, ()), last, term, ()) () = some (newerS b t xs last term, ()) := by
  rw [Fe_ref15_Newer]
  unfold tree_ref15_Newer newerS
  rw [e_ref_Last hb.1 hx (by omega)]
  simp only [Option.bind_some]
  rw [e_ref_Term hb.1 (by omega) hx]
  simp only [Option.bind_some]
  rw [cond_decide, cond_eqi]
  generalize (termS b t xs (b + xs.length)).1 = own
  by_cases h1 : term > own
  · rw [if_pos h1, decide_eq_true (.inl h1)]
  · rw [if_neg h1]
    by_cases h2 : term = own
    · rw [if_pos h2]
      congr 2
      rw [Bool.eq_iff_iff, decide_eq_true_eq, decide_eq_true_eq]
      omega
    · rw [if_neg h2, decide_eq_false (by omega)]

theorem term_in {b t i : Int} {xs : List E} (h : (termS b t xs i).2 = true) : b ≤ i ∧ i ≤ b + xs.length := by
  unfold termS at h
  split at h
  · omega
  · unfold entS at h
    split at h
    · omega
    · cases h

def sliceS (b : Int) (xs : List E) (i most : Int) : List E := if most < 1 then [] else (xs.drop (i - b - 1).toNat).take most.toNat

theorem e_Slice {b t i most : Int} {xs : List E} (hb : 0 ≤ b ∧ b ≤ 4611686018427387904) (hi : U i) (hx : xs.length ≤ 256) :
    F_rlog_Slice ((b, t, xs, ()), i, most, ()) () = some (sliceS b xs i most, ()) := by
  rw [Fe_rlog_Slice]
  unfold tree_rlog_Slice sliceS
  obtain ⟨hi0, hi1⟩ := hi
  rw [cond_decide]
  by_cases h1 : most < 1
  · rw [if_pos h1, if_pos h1]
  rw [if_neg h1, if_neg h1, e_rlog_Last hb.1 (by omega) (by omega)]
  simp only [Option.bind_some]
  rw [u64id (n := b + 1) (by omega) (by omega)]
  have hf : ∃ f, (if b + 1 > i then b + 1 else i) = f ∧ b + 1 ≤ f ∧ (i - b - 1).toNat = (f - b - 1).toNat ∧ f < 18446744073709551616 := by
    by_cases h : b + 1 > i
    · exact ⟨b + 1, if_pos h, by omega, by omega, by omega⟩
    · exact ⟨i, if_neg h, by omega, rfl, hi1⟩
  obtain ⟨f, hf, hf1, hf2, hf3⟩ := hf
  rw [hf, hf2, cond_decide]
  by_cases h2 : f > b + xs.length
  · rw [if_pos h2, List.drop_of_length_le (by omega), List.take_nil]
  · rw [if_neg h2, u64id (n := f - b) (by omega) (by omega), u64id (n := f - b - 1) (by omega) (by omega), cd_t (by omega), cd_t (by omega), List.take_length]
    have hm : ∃ m : Int, (if most < ((xs.drop (f - b - 1).toNat).length : Int) then most else ((xs.drop (f - b - 1).toNat).length : Int)) = m ∧ 0 ≤ m ∧ m ≤ (xs.drop (f - b - 1).toNat).length ∧ (xs.drop (f - b - 1).toNat).take m.toNat = (xs.drop (f - b - 1).toNat).take most.toNat := by
      by_cases h : most < ((xs.drop (f - b - 1).toNat).length : Int)
      · exact ⟨most, if_pos h, by omega, by omega, rfl⟩
      · refine ⟨_, if_neg h, by omega, by omega, ?_⟩
        rw [Int.toNat_natCast, List.take_length, List.take_of_length_le (by omega)]
    obtain ⟨m, hm, hm0, hm1, hm2⟩ := hm
    rw [hm, cd_t hm0, cd_t hm1, List.drop_zero, hm2]
    have : F_s_Clone_aE ((xs.drop (f - b - 1).toNat).take most.toNat, ()) () = some ((xs.drop (f - b - 1).toNat).take most.toNat, ()) := by
      unfold F_s_Clone_aE
      rw [cd_t (by simp; omega)]
    rw [this]
    rfl

theorem Slice_loop (b t i most : Int) (xs : List E) (hb : 0 ≤ b) (hx : b + xs.length < 18446744073709551614) (hx2 : xs.length ≤ 1099511627776) : ∀ (d j : Nat) (acc : List E), j + d = xs.length → acc.length ≤ j → 
    L_ref15_Slice_3 (i, most, b + j + 1, ()) (acc, (b, t, xs, ()), ()) = some ((), (acc ++ (xs.drop (max j (i - b - 1).toNat)).take (most.toNat - acc.length), ()))
  | 0, j, acc, h, ha => by
    rw [Le_ref15_Slice_3]
    unfold ltree_ref15_Slice_3
    rw [e_ref_Last hb (by omega) (by omega)]
    simp only [Option.bind_some]
    rw [cd_f (by omega), List.drop_of_length_le (by omega), List.take_nil, List.append_nil]
  | d + 1, j, acc, h, ha => by
    rw [Le_ref15_Slice_3]
    unfold ltree_ref15_Slice_3
    rw [e_ref_Last hb (by omega) (by omega)]
    simp only [Option.bind_some]
    have hk : j < xs.length := by omega
    have e0 : entS b xs (b + j + 1) = (xs[j], true) := by
      unfold entS
      rw [if_pos (by omega), show (b + j + 1 - b - 1 : Int).toNat = j by omega]
      simp [List.getD, hk]
    have e4 : IntKind.u64.wrap (b + j + 1 + 1) = b + (j + 1 : Nat) + 1 := by rw [u64id] <;> omega
    rw [cd_t (by omega), e_ref_Entry hb (by omega) (by omega), e0, e4]
    simp only [Option.bind_some]
    rw [cond_decide]
    by_cases h1 : b + j + 1 ≥ i
    · rw [if_pos h1, cond_decide, show max j (i - b - 1).toNat = j by omega]
      by_cases h2 : (acc.length : Int) < most
      · rw [if_pos h2, cd_t (by omega), Slice_loop b t i most xs hb hx hx2 d (j + 1) _ (by omega) (by simp; omega), show max (j + 1) (i - b - 1).toNat = j + 1 by omega, List.drop_eq_getElem_cons hk]
        have e5 : most.toNat - acc.length = (most.toNat - (acc ++ ([] ++ [(xs[j].1, xs[j].2.1, xs[j].2.2)])).length) + 1 := by simp; omega
        rw [e5, List.take_succ_cons]
        simp
      · rw [if_neg h2, Slice_loop b t i most xs hb hx hx2 d (j + 1) _ (by omega) (by omega), show most.toNat - acc.length = 0 by omega]
        simp
    · rw [if_neg h1, Slice_loop b t i most xs hb hx hx2 d (j + 1) _ (by omega) (by omega), show max (j + 1) (i - b - 1).toNat = (i - b - 1).toNat by omega, show max j (i - b - 1).toNat = (i - b - 1).toNat by omega]

theorem e_ref_Slice {b t i most : Int} {xs : List E} (hb : 0 ≤ b ∧ b ≤ 4611686018427387904) (hx : xs.length ≤ 256) :
    F_ref15_Slice ((b, t, xs, ()), i, most, ()) () = some (sliceS b xs i most, ()) := by
  rw [Fe_ref15_Slice]
  unfold tree_ref15_Slice sliceS
  have hl := Slice_loop b t i most xs hb.1 (by omega) (by omega) xs.length 0 [] (by omega) (Nat.zero_le _)
  rw [show b + ((0 : Nat) : Int) + 1 = b + 1 by omega] at hl
  rw [u64id (by omega) (by omega), hl]
  simp only [Option.bind_some, List.nil_append, List.length_nil, Nat.sub_zero, Nat.zero_max]
  by_cases h : most < 1
  · rw [if_pos h, show most.toNat = 0 by omega, List.take_zero]
  · rw [if_neg h]
end Go.Proofs.Ytjhaidbfahobmaa.S2
