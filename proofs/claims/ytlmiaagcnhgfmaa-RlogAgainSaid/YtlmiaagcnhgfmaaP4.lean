/- What a log tells of itself; which one is newer. -/
import Derived.Test.YtlmiaagcnhgfmaaP3
set_option linter.unusedVariables false
set_option linter.unusedSimpArgs false
namespace Go.Proofs.Ytlmiaagcnhgfmaa.S2
open Go

def newerS (b t : Int) (xs : List E) (last term : Int) : Bool :=
  decide (term > (termS b t xs (b + xs.length)).1 ∨ (term = (termS b t xs (b + xs.length)).1 ∧ last ≥ b + xs.length))

theorem e_Newer {b t last term : Int} {xs : List E} (hb : 0 ≤ b ∧ b ≤ 4611686018427387904) (hx : xs.length ≤ 140737488355328) :
    F_rlog_Newer ((b, t, xs, ()), last, term, ()) () = some (newerS b t xs last term, ()) := by
  rw [Fe_rlog_Newer]
  unfold tree_rlog_Newer newerS
  rw [e_rlog_Last hb.1 hx (by omega)]
  simp only [Option.bind_some]
  rw [e_rlog_Term ⟨hb.1, by omega⟩ ⟨by omega, by omega⟩ hx]
  simp only [Option.bind_some]
  rw [cond_decide, cond_eqi]
  generalize (termS b t xs (b + xs.length)).1 = own
  by_cases h1 : term > own
  · rw [if_pos h1, decide_eq_true (.inl h1)]
  · rw [if_neg h1]
    by_cases h2 : term = own
    · rw [if_pos h2]
      congr 2
      rw [Bool.eq_iff_iff, decide_eq_true_eq, decide_eq_true_eq]
      omega
    · rw [if_neg h2, decide_eq_false (by omega)]

theorem e_ref_Newer {b t last term : Int} {xs : List E} (hb : 0 ≤ b ∧ b ≤ 4611686018427387904) (hx : xs.length ≤ 140737488355328) :
    F_ref15_Newer ((b, t, xs, ()), last, term, ()) () = some (newerS b t xs last term, ()) := by
  rw [Fe_ref15_Newer]
  unfold tree_ref15_Newer newerS
  rw [e_ref_Last hb.1 hx (by omega)]
  simp only [Option.bind_some]
  rw [e_ref_Term hb.1 (by omega) hx]
  simp only [Option.bind_some]
  rw [cond_decide, cond_eqi]
  generalize (termS b t xs (b + xs.length)).1 = own
  by_cases h1 : term > own
  · rw [if_pos h1, decide_eq_true (.inl h1)]
  · rw [if_neg h1]
    by_cases h2 : term = own
    · rw [if_pos h2]
      congr 2
      rw [Bool.eq_iff_iff, decide_eq_true_eq, decide_eq_true_eq]
      omega
    · rw [if_neg h2, decide_eq_false (by omega)]

theorem e_Append {b t : Int} {xs es : List E} (hx : xs.length ≤ 256) (he : es.length ≤ 140737488355328) :
    F_rlog_Append ((b, t, xs, ()), es, ()) () = some (if xs.length + es.length > 256 then ((b, t, xs, ()), false, ()) else ((b, t, xs ++ es, ()), true, ()), ()) := by
  rw [Fe_rlog_Append]
  unfold tree_rlog_Append
  rw [i64id (by omega) (by omega), cond_decide]
  by_cases h : xs.length + es.length > 256
  · rw [if_pos (by omega), if_pos h, e_with (by omega)]
    rfl
  · rw [if_neg (by omega), if_neg h, e_Concat (by omega)]
    simp only [Option.bind_some]
    rw [e_with (by simp; omega)]
    rfl

theorem e_ref_Append {b t : Int} {xs es : List E} (hb : 0 ≤ b ∧ b ≤ 4611686018427387904) (hx : xs.length ≤ 256) (he : es.length ≤ 140737488355328) :
    F_ref15_Append ((b, t, xs, ()), es, ()) () = some (if xs.length + es.length > 256 then ((b, t, xs, ()), false, ()) else ((b, t, xs ++ es, ()), true, ()), ()) := by
  rw [Fe_ref15_Append]
  unfold tree_ref15_Append
  rw [i64id (by omega) (by omega), cond_decide]
  by_cases h : xs.length + es.length > 256
  · rw [if_pos (by omega), if_pos h]
  · rw [if_neg (by omega), if_neg h, e_ref_Last hb.1 (by omega) (by omega)]
    simp only [Option.bind_some]
    rw [e_Lay hb.1 (by omega) (by omega) (by omega) (by omega) (by omega), show (b + (xs.length : Int) - b).toNat = xs.length by omega, List.take_length]
    rfl

theorem term_in {b t i : Int} {xs : List E} (h : (termS b t xs i).2 = true) : b ≤ i ∧ i ≤ b + xs.length := by
  unfold termS at h
  split at h
  · omega
  · unfold entS at h
    split at h
    · omega
    · cases h

def compactS (b t : Int) (xs : List E) (i : Int) : Int × Int × List E × Bool :=
  if (termS b t xs i).2 = true then (i, (termS b t xs i).1, xs.drop (i - b).toNat, true) else (b, t, xs, false)

theorem e_Compact {b t i : Int} {xs : List E} (hb : 0 ≤ b ∧ b ≤ 4611686018427387904) (hi : U i) (hx : xs.length ≤ 256) :
    F_rlog_Compact ((b, t, xs, ()), i, ()) () = some ((((compactS b t xs i).1, (compactS b t xs i).2.1, (compactS b t xs i).2.2.1, ()), (compactS b t xs i).2.2.2, ()), ()) := by
  rw [Fe_rlog_Compact]
  unfold tree_rlog_Compact compactS
  rw [e_rlog_Term ⟨hb.1, by omega⟩ hi (by omega)]
  simp only [Option.bind_some]
  cases h : (termS b t xs i).2 with
  | false =>
    simp only [Bool.not_false, cond_true]
    rw [e_with (by omega)]
    rfl
  | true =>
    have := term_in h
    simp only [Bool.not_true, cond_false, if_true]
    rw [u64id (by omega) (by omega), cd_t (by omega), cd_t (by omega), e_with (by simp; omega), List.take_length]
    rfl

theorem Compact_loop (b t z1 z2 z3 z4 : Int) (xs : List E) (hb : 0 ≤ b) (hx : b + xs.length < 18446744073709551614) (hx2 : xs.length ≤ 1099511627776) : ∀ (d k : Nat) (acc : List E), k + d = xs.length → acc.length ≤ k → 
    L_ref15_Compact_6 (b + k + 1, ()) (acc, (b, t, xs, ()), (z1, z2, ()), (z3, z4, ()), ()) = some ((), (acc ++ xs.drop k, ((z1, z2, ()), ((z3, z4, ()), ()))))
  | 0, k, acc, h, ha => by
    rw [Le_ref15_Compact_6]
    unfold ltree_ref15_Compact_6
    rw [e_ref_Last hb (by omega) (by omega)]
    simp only [Option.bind_some]
    rw [cd_f (by omega), List.drop_of_length_le (by omega), List.append_nil]
  | d + 1, k, acc, h, ha => by
    rw [Le_ref15_Compact_6]
    unfold ltree_ref15_Compact_6
    rw [e_ref_Last hb (by omega) (by omega)]
    simp only [Option.bind_some]
    have hk : k < xs.length := by omega
    have e0 : entS b xs (b + k + 1) = (xs[k], true) := by
      unfold entS
      rw [if_pos (by omega), show (b + k + 1 - b - 1 : Int).toNat = k by omega]
      simp [List.getD, hk]
    rw [cd_t (by omega), e_ref_Entry hb (by omega) (by omega), e0]
    simp only [Option.bind_some]
    have e4 : IntKind.u64.wrap (b + k + 1 + 1) = b + (k + 1 : Nat) + 1 := by rw [u64id] <;> omega
    rw [cd_t (by simp; omega), e4, Compact_loop b t z1 z2 z3 z4 xs hb hx hx2 d (k + 1) _ (by omega) (by simp; omega)]
    rw [List.drop_eq_getElem_cons hk, List.append_assoc, List.nil_append]
    rfl

theorem e_ref_Compact {b t i : Int} {xs : List E} (hb : 0 ≤ b ∧ b ≤ 4611686018427387904) (hx : xs.length ≤ 256) :
    F_ref15_Compact ((b, t, xs, ()), i, ()) () = some ((((compactS b t xs i).1, (compactS b t xs i).2.1, (compactS b t xs i).2.2.1, ()), (compactS b t xs i).2.2.2, ()), ()) := by
  rw [Fe_ref15_Compact]
  unfold tree_ref15_Compact compactS
  rw [e_ref_Term hb.1 (by omega) (by omega)]
  simp only [Option.bind_some]
  cases h : (termS b t xs i).2 with
  | false => rfl
  | true =>
    have := term_in h
    simp only [Bool.not_true, cond_false, if_true]
    have hl := Compact_loop b t 0 0 i (termS b t xs i).1 xs hb.1 (by omega) (by omega) (xs.length - (i - b).toNat) (i - b).toNat [] (by omega) (Nat.zero_le _)
    rw [show b + ((i - b).toNat : Int) + 1 = i + 1 by omega] at hl
    rw [u64id (by omega) (by omega), hl]
    rfl

def sliceS (b : Int) (xs : List E) (i most : Int) : List E := if most < 1 then [] else (xs.drop (i - b - 1).toNat).take most.toNat

theorem e_Slice {b t i most : Int} {xs : List E} (hb : 0 ≤ b ∧ b ≤ 4611686018427387904) (hi : U i) (hx : xs.length ≤ 256) :
    F_rlog_Slice ((b, t, xs, ()), i, most, ()) () = some (sliceS b xs i most, ()) := by
  rw [Fe_rlog_Slice]
  unfold tree_rlog_Slice sliceS
  obtain ⟨hi0, hi1⟩ := hi
  rw [cond_decide]
  by_cases h1 : most < 1
  · rw [if_pos h1, if_pos h1]
  rw [if_neg h1, if_neg h1, e_rlog_Last hb.1 (by omega) (by omega)]
  simp only [Option.bind_some]
  rw [u64id (n := b + 1) (by omega) (by omega)]
  have hf : ∃ f, (if b + 1 > i then b + 1 else i) = f ∧ b + 1 ≤ f ∧ (i - b - 1).toNat = (f - b - 1).toNat ∧ f < 18446744073709551616 := by
    by_cases h : b + 1 > i
    · exact ⟨b + 1, if_pos h, by omega, by omega, by omega⟩
    · exact ⟨i, if_neg h, by omega, rfl, hi1⟩
  obtain ⟨f, hf, hf1, hf2, hf3⟩ := hf
  rw [hf, hf2, cond_decide]
  by_cases h2 : f > b + xs.length
  · rw [if_pos h2, List.drop_of_length_le (by omega), List.take_nil]
  · rw [if_neg h2, u64id (n := f - b) (by omega) (by omega), u64id (n := f - b - 1) (by omega) (by omega), cd_t (by omega), cd_t (by omega), List.take_length]
    have hm : ∃ m : Int, (if most < ((xs.drop (f - b - 1).toNat).length : Int) then most else ((xs.drop (f - b - 1).toNat).length : Int)) = m ∧ 0 ≤ m ∧ m ≤ (xs.drop (f - b - 1).toNat).length ∧ (xs.drop (f - b - 1).toNat).take m.toNat = (xs.drop (f - b - 1).toNat).take most.toNat := by
      by_cases h : most < ((xs.drop (f - b - 1).toNat).length : Int)
      · exact ⟨most, if_pos h, by omega, by omega, rfl⟩
      · refine ⟨_, if_neg h, by omega, by omega, ?_⟩
        rw [Int.toNat_natCast, List.take_length, List.take_of_length_le (by omega)]
    obtain ⟨m, hm, hm0, hm1, hm2⟩ := hm
    rw [hm, cd_t hm0, cd_t hm1, List.drop_zero, hm2]
    have : F_slices_Clone_api_Entry ((xs.drop (f - b - 1).toNat).take most.toNat, ()) () = some ((xs.drop (f - b - 1).toNat).take most.toNat, ()) := by
      unfold F_slices_Clone_api_Entry
      rw [cd_t (by simp; omega)]
    rw [this]
    rfl

theorem Slice_loop (b t i most : Int) (xs : List E) (hb : 0 ≤ b) (hx : b + xs.length < 18446744073709551614) (hx2 : xs.length ≤ 1099511627776) : ∀ (d j : Nat) (acc : List E), j + d = xs.length → acc.length ≤ j → 
    L_ref15_Slice_3 (i, most, b + j + 1, ()) (acc, (b, t, xs, ()), ()) = some ((), (acc ++ (xs.drop (max j (i - b - 1).toNat)).take (most.toNat - acc.length), ()))
  | 0, j, acc, h, ha => by
    rw [Le_ref15_Slice_3]
    unfold ltree_ref15_Slice_3
    rw [e_ref_Last hb (by omega) (by omega)]
    simp only [Option.bind_some]
    rw [cd_f (by omega), List.drop_of_length_le (by omega), List.take_nil, List.append_nil]
  | d + 1, j, acc, h, ha => by
    rw [Le_ref15_Slice_3]
    unfold ltree_ref15_Slice_3
    rw [e_ref_Last hb (by omega) (by omega)]
    simp only [Option.bind_some]
    have hk : j < xs.length := by omega
    have e0 : entS b xs (b + j + 1) = (xs[j], true) := by
      unfold entS
      rw [if_pos (by omega), show (b + j + 1 - b - 1 : Int).toNat = j by omega]
      simp [List.getD, hk]
    have e4 : IntKind.u64.wrap (b + j + 1 + 1) = b + (j + 1 : Nat) + 1 := by rw [u64id] <;> omega
    rw [cd_t (by omega), e_ref_Entry hb (by omega) (by omega), e0, e4]
    simp only [Option.bind_some]
    rw [cond_decide]
    by_cases h1 : b + j + 1 ≥ i
    · rw [if_pos h1, cond_decide, show max j (i - b - 1).toNat = j by omega]
      by_cases h2 : (acc.length : Int) < most
      · rw [if_pos h2, cd_t (by simp; omega), Slice_loop b t i most xs hb hx hx2 d (j + 1) _ (by omega) (by simp; omega), show max (j + 1) (i - b - 1).toNat = j + 1 by omega, List.drop_eq_getElem_cons hk]
        have e5 : most.toNat - acc.length = (most.toNat - (acc ++ ([] ++ [(xs[j].1, xs[j].2.1, xs[j].2.2)])).length) + 1 := by simp; omega
        rw [e5, List.take_succ_cons]
        simp
      · rw [if_neg h2, Slice_loop b t i most xs hb hx hx2 d (j + 1) _ (by omega) (by omega), show most.toNat - acc.length = 0 by omega]
        simp
    · rw [if_neg h1, Slice_loop b t i most xs hb hx hx2 d (j + 1) _ (by omega) (by omega), show max (j + 1) (i - b - 1).toNat = (i - b - 1).toNat by omega, show max j (i - b - 1).toNat = (i - b - 1).toNat by omega]

theorem e_ref_Slice {b t i most : Int} {xs : List E} (hb : 0 ≤ b ∧ b ≤ 4611686018427387904) (hx : xs.length ≤ 256) :
    F_ref15_Slice ((b, t, xs, ()), i, most, ()) () = some (sliceS b xs i most, ()) := by
  rw [Fe_ref15_Slice]
  unfold tree_ref15_Slice sliceS
  have hl := Slice_loop b t i most xs hb.1 (by omega) (by omega) xs.length 0 [] (by omega) (Nat.zero_le _)
  rw [show b + ((0 : Nat) : Int) + 1 = b + 1 by omega] at hl
  rw [u64id (by omega) (by omega), hl]
  simp only [Option.bind_some, List.nil_append, List.length_nil, Nat.sub_zero, Nat.zero_max]
  by_cases h : most < 1
  · rw [if_pos h, show most.toNat = 0 by omega, List.take_zero]
  · rw [if_neg h]

/-- What a log tells is as the document says. -/
theorem RlogTells_plain {b t p q most : Int} {xs es : List E} (hb : U b) (hp : U p) (he : es.length ≤ 140737488355328) :
    F_law15_RlogTells ((b, t, xs, ()), (p, q, es, ()), most, ()) () = some (true, ()) := by
  rw [Fe_law15_RlogTells]
  unfold tree_law15_RlogTells
  rw [e_fixed]
  simp only [Option.bind_some, Bool.not_true, cond_false]
  rw [e_May]
  simp only [Option.bind_some]
  by_cases hm : b ≤ 4611686018427387904 ∧ xs.length ≤ 256
  · have hb' : 0 ≤ b ∧ b ≤ 4611686018427387904 := ⟨hb.1, hm.1⟩
    rw [decide_eq_true hm]
    simp only [Bool.not_true, cond_false]
    rw [e_rlog_Term hb hp (by omega), e_ref_Term hb.1 (by omega) (by omega), e_rlog_Entry hb hp (by omega), e_ref_Entry hb.1 (by omega) (by omega), e_Append hm.2 he, e_ref_Append hb' hm.2 he, e_Compact hb' hp hm.2, e_ref_Compact hb' hm.2]
    simp only [Option.bind_some]
    have hc : (compactS b t xs p).2.2.1.length ≤ 256 := by
      unfold compactS
      split
      · simp; omega
      · exact hm.2
    have hz : ∀ z : E, (false ^^ (z.1 == z.1 && (z.2.1 == z.2.1 && (z.2.2.toList == z.2.2.toList && true)))) = true := by intro z; simp
    rw [c_t (beq_self_eq_true _), c_t (beq_self_eq_true _), c_t (hz _), c_t (beq_self_eq_true _)]
    have hIs : ∀ (z : (Int × Int × List E × Unit) × Bool × Unit), z = (if xs.length + es.length > 256 then ((b, t, xs, ()), false, ()) else ((b, t, xs ++ es, ()), true, ())) → z.1.2.2.1.length ≤ 140737488355328 := by
      intro z hz
      subst hz
      split
      · show xs.length ≤ _; omega
      · show (xs ++ es).length ≤ _; simp; omega
    have hI := hIs _ rfl
    rw [e_Is hI hI, decide_eq_true ⟨rfl, rfl, rfl⟩]
    simp only [Option.bind_some, cond_true]
    rw [c_t (beq_self_eq_true _), e_Is (by omega) (by omega), decide_eq_true ⟨rfl, rfl, rfl⟩]
    simp only [Option.bind_some, cond_true]
    rw [c_t (beq_self_eq_true _), e_rlog_Last hb.1 (by omega) (by omega), e_ref_Last hb.1 (by omega) (by omega)]
    simp only [Option.bind_some]
    have hs : (sliceS b xs p most).length ≤ 140737488355328 := by
      unfold sliceS
      split
      · simp
      · simp; omega
    rw [c_t (beq_self_eq_true _), e_Slice hb' hp hm.2, e_ref_Slice hb' hm.2]
    simp only [Option.bind_some]
    rw [e_Entries hs hs, decide_eq_true rfl]
    simp only [Option.bind_some, cond_true]
    rw [e_Newer hb' (by omega), e_ref_Newer hb' (by omega)]
    simp only [Option.bind_some]
    rw [beq_self_eq_true]
  · rw [decide_eq_false hm]
    rfl
end Go.Proofs.Ytlmiaagcnhgfmaa.S2
