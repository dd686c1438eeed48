/- The calls whose answers the document fixes; the statement on merging. -/
import Derived.Test.YtlmiaagcnhgfmaaP2
set_option linter.unusedVariables false
set_option linter.unusedSimpArgs false
namespace Go.Proofs.Ytlmiaagcnhgfmaa.S2
open Go

def termE (t : Int) : E := (t, 0, ByteArray.empty)

theorem terms_loop (z1 z2 z3 z4 : Int) (l : List Int) (hl : l.length ≤ 1000000) : ∀ (d k : Nat) (acc : List E), k + d = l.length → acc.length = k →
    L_law15_terms_3 (l, (k : Int), ()) (acc, (z1, z2, ()), (z3, z4, ()), ()) = some ((), (acc ++ (l.drop k).map termE, ((z1, z2, ()), ((z3, z4, ()), ()))))
  | 0, k, acc, h, ha => by
    rw [Le_law15_terms_3]
    unfold ltree_law15_terms_3
    rw [cd_f (by omega), List.drop_of_length_le (by omega), List.map_nil, List.append_nil]
  | d + 1, k, acc, h, ha => by
    have hk : k < l.length := by omega
    rw [Le_law15_terms_3]
    unfold ltree_law15_terms_3
    rw [cd_t (by omega), cd_t (by omega), cd_t (by omega), cd_t (by simp; omega), show IntKind.i64.wrap ((k : Int) + 1) = ((k + 1 : Nat) : Int) by rw [i64id] <;> omega,
      terms_loop z1 z2 z3 z4 l hl d (k + 1) _ (by omega) (by simp [ha]), List.drop_eq_getElem_cons hk, Int.toNat_natCast]
    have e : l.getD k 0 = l[k] := by simp [List.getD, hk]
    rw [e, List.map_cons, List.nil_append, List.append_assoc]
    rfl

theorem e_terms (l : List Int) (hl : l.length ≤ 1000000) : F_law15_terms (l, ()) () = some ((0, 0, l.map termE, ()), ()) := by
  rw [Fe_law15_terms]
  unfold tree_law15_terms
  have := terms_loop 0 0 0 0 l hl l.length 0 [] (by omega) rfl
  rw [show ((0 : Nat) : Int) = 0 from rfl] at this
  rw [this]
  rfl

theorem e_fixed : F_law15_fixed () () = some (true, ()) := by
  rw [Fe_law15_fixed]
  unfold tree_law15_fixed
  rw [e_terms _ (by decide)]
  simp only [Option.bind_some]
  rw [e_terms _ (by decide)]
  simp only [Option.bind_some]
  rw [e_Merge ⟨by decide, by decide⟩ (by decide) ⟨by decide, by decide⟩ (by decide)]
  simp only [Option.bind_some]
  rw [e_Merge ⟨by decide, by decide⟩ (by decide) ⟨by decide, by decide⟩ (by decide)]
  simp only [Option.bind_some]
  rw [e_terms _ (by decide)]
  simp only [Option.bind_some]
  rw [e_Merge ⟨by decide, by decide⟩ (by decide) ⟨by decide, by decide⟩ (by decide)]
  simp only [Option.bind_some]
  rw [e_rlog_Term ⟨by decide, by decide⟩ ⟨by decide, by decide⟩ (by decide)]
  simp only [Option.bind_some]
  have m1 : mergeS 0 0 (([] ++ [1] ++ [1] ++ [2] : List Int).map termE) 1 1 (([] ++ [1] ++ [3] : List Int).map termE) = (([] ++ [1] ++ [1] ++ [3] : List Int).map termE, 3, true) := by rfl
  have m2 : (mergeS 0 0 (([] ++ [1] ++ [1] ++ [2] : List Int).map termE) 2 2 []).2.2 = false := by rfl
  have m3 : mergeS 0 0 (([] ++ [1] ++ [1] ++ [2] : List Int).map termE) 0 0 (([] ++ [1] : List Int).map termE) = (([] ++ [1] ++ [1] ++ [2] : List Int).map termE, 1, true) := by rfl
  have m4 : termS 0 0 (([] ++ [1] ++ [1] ++ [2] : List Int).map termE) 3 = (2, true) := by rfl
  rw [m1, m2, m3, m4]
  simp only [cond_true, cond_false, Bool.not_false]
  rw [cond_eqi, if_pos rfl, e_terms _ (by decide)]
  simp only [Option.bind_some]
  rw [e_Is (by decide) (by decide), decide_eq_true ⟨rfl, rfl, rfl⟩]
  simp only [Option.bind_some, cond_true]
  rw [cond_eqi, if_pos rfl, e_Is (by decide) (by decide), decide_eq_true ⟨rfl, rfl, rfl⟩]
  simp only [Option.bind_some, cond_true]
  rw [cond_eqi, if_pos rfl, e_rlog_Last (by decide) (by decide) (by decide)]
  rfl

theorem mergeS_len {b t p q : Int} {xs es : List E} (h : xs.length ≤ 256) : (mergeS b t xs p q es).1.length ≤ 256 := by
  have hl : ∀ (a : Nat) (last : Int) (es : List E), (layS xs a last es).1.length ≤ 256 := by
    intro a last es
    unfold layS
    split
    · exact h
    · split
      · exact h
      · have := agree_le (xs.drop a) es
        simp at this ⊢
        omega
  unfold mergeS
  split
  · exact h
  · split
    · split
      · exact h
      · exact hl _ _ _
    · split
      · exact hl _ _ _
      · exact h

/-- What comes of any log by any entries that are sent is as the document says. -/
theorem RlogMerges_plain {b t p q : Int} {xs es : List E} (hb : U b) (hp : U p) (hx : xs.length ≤ 140737488355328) (he : es.length ≤ 140737488355328) :
    F_law15_RlogMerges ((b, t, xs, ()), (p, q, es, ()), ()) () = some (true, ()) := by
  rw [Fe_law15_RlogMerges]
  unfold tree_law15_RlogMerges
  rw [e_fixed]
  simp only [Option.bind_some, Bool.not_true, cond_false]
  rw [e_May]
  simp only [Option.bind_some]
  by_cases hm : b ≤ 4611686018427387904 ∧ xs.length ≤ 256
  · rw [decide_eq_true hm]
    simp only [Bool.not_true, cond_false]
    by_cases h6 : (es.length : Int) > 600
    · rw [cd_t h6]
    · rw [cd_f h6, e_Merge ⟨hb.1, hm.1⟩ hm.2 hp (by omega)]
      simp only [Option.bind_some]
      have hl := mergeS_len (b := b) (t := t) (p := p) (q := q) (es := es) hm.2
      rw [e_ref_Merge ⟨hb.1, hm.1⟩ hm.2 hp (by omega)]
      simp only [Option.bind_some]
      rw [e_Is (by omega) (by omega), decide_eq_true ⟨rfl, rfl, rfl⟩]
      simp only [Option.bind_some, cond_true]
      rw [cond_eqi, if_pos rfl, beq_self_eq_true]
  · rw [decide_eq_false hm]
    rfl
end Go.Proofs.Ytlmiaagcnhgfmaa.S2
