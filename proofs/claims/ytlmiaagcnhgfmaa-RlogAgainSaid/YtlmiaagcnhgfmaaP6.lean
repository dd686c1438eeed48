/- The stage's theorem of logs: sent again, it changes nothing. -/
import Derived.Test.YtlmiaagcnhgfmaaP5
set_option linter.unusedVariables false
set_option linter.unusedSimpArgs false
namespace Go.Proofs.Ytlmiaagcnhgfmaa.S2
open Go

theorem Again_loop9 {b t p q less n : Int} {xs es ys : List E} (hb : 0 ≤ b ∧ b ≤ 4611686018427387904) (hp : 0 ≤ p ∧ p ≤ 9223372036854775808) (hel : es.length ≤ 600) (hys : ys.length ≤ 256)
    (hterm : ∀ i, i < es.length → p + i + 1 > b → termS b t ys (p + i + 1) = ((es.getD i (0, 0, ByteArray.empty)).1, true)) : ∀ (d k : Nat), k + d = es.length →
    L_law15_RlogAgain_9 (less, n, (k : Int), ()) ((b, t, xs, ()), (p, q, es, ()), (b, t, ys, ()), ()) = some (.inr ((less, n, ()), ((b, t, xs, ()), (p, q, es, ()), (b, t, ys, ()), ())))
  | 0, k, h => by
    rw [Le_law15_RlogAgain_9]
    unfold ltree_law15_RlogAgain_9
    rw [cd_f (by omega)]
  | d + 1, k, h => by
    rw [Le_law15_RlogAgain_9]
    unfold ltree_law15_RlogAgain_9
    have hk : k < es.length := by omega
    have w0 : IntKind.u64.wrap (k : Int) = k := u64id (by omega) (by omega)
    have w1 : IntKind.u64.wrap (p + k) = p + k := u64id (by omega) (by omega)
    have w2 : IntKind.u64.wrap (p + k + 1) = p + k + 1 := u64id (by omega) (by omega)
    have w3 : IntKind.i64.wrap ((k : Int) + 1) = ((k + 1 : Nat) : Int) := by rw [i64id] <;> omega
    simp only [w0, w1, w2, w3, Int.toNat_natCast]
    rw [cd_t (by omega), e_rlog_Term ⟨hb.1, by omega⟩ ⟨by omega, by omega⟩ (by omega)]
    simp only [Option.bind_some]
    rw [cond_decide]
    by_cases h1 : p + k + 1 > b
    · rw [if_pos h1, hterm k hk h1]
      simp only [Bool.not_true, cond_false]
      rw [cd_t (by omega), cd_t (by omega), cond_nei, if_pos rfl]
      exact Again_loop9 hb hp hel hys hterm d (k + 1) (by omega)
    · rw [if_neg h1]
      exact Again_loop9 hb hp hel hys hterm d (k + 1) (by omega)

theorem Again_loop15 {b t p q less n : Int} {xs es ys : List E} (hb : 0 ≤ b ∧ b ≤ 4611686018427387904) (hp : 0 ≤ p ∧ p ≤ 9223372036854775808) (hxs : xs.length ≤ 256) (hys : ys.length ≤ 256)
    (hent : ∀ i, b < i → i ≤ p → i ≤ b + xs.length → entS b ys i = entS b xs i ∧ (entS b xs i).2 = true) : ∀ (d k : Nat), k + d = xs.length →
    L_law15_RlogAgain_15 (less, n, b + k + 1, ()) ((b, t, xs, ()), (p, q, es, ()), (b, t, ys, ()), ()) = some (.inr ((less, n, ()), ((p, q, es, ()), (b, t, ys, ()), ())))
  | 0, k, h => by
    rw [Le_law15_RlogAgain_15]
    unfold ltree_law15_RlogAgain_15
    rw [cond_decide]
    split
    · rw [e_rlog_Last hb.1 (by omega) (by omega)]
      simp only [Option.bind_some]
      rw [cd_f (by omega)]
    · rfl
  | d + 1, k, h => by
    rw [Le_law15_RlogAgain_15]
    unfold ltree_law15_RlogAgain_15
    rw [cond_decide]
    split
    · rename_i h1
      rw [e_rlog_Last hb.1 (by omega) (by omega)]
      simp only [Option.bind_some]
      obtain ⟨h2, h3⟩ := hent (b + k + 1) (by omega) h1 (by omega)
      rw [cd_t (by omega), e_rlog_Entry ⟨hb.1, by omega⟩ ⟨by omega, by omega⟩ (by omega), e_rlog_Entry ⟨hb.1, by omega⟩ ⟨by omega, by omega⟩ (by omega), h2, h3]
      simp only [Option.bind_some, Bool.not_true, cond_false]
      have hz : ∀ z : E, (true ^^ (z.1 == z.1 && (z.2.1 == z.2.1 && (z.2.2.toList == z.2.2.toList && true)))) = false := by intro z; simp
      have w3 : IntKind.u64.wrap (b + k + 1 + 1) = b + (k + 1 : Nat) + 1 := by rw [u64id] <;> omega
      rw [c_f (hz _), w3]
      exact Again_loop15 hb hp hxs hys hent d (k + 1) (by omega)
    · rfl

theorem RlogAgain_plain {b t p q less : Int} {xs es : List E} (hb : U b) (hp : U p) (hx : xs.length ≤ 140737488355328) (he : es.length ≤ 140737488355328) (hless : -9223372036854775808 ≤ less ∧ less < 9223372036854775808) :
    F_law15_RlogAgain ((b, t, xs, ()), (p, q, es, ()), less, ()) () = some (true, ()) := by
  rw [Fe_law15_RlogAgain]
  unfold tree_law15_RlogAgain
  rw [e_fixed]
  simp only [Option.bind_some, Bool.not_true, cond_false]
  rw [e_May]
  simp only [Option.bind_some]
  by_cases hm : b ≤ 4611686018427387904 ∧ xs.length ≤ 256
  · have hb' : 0 ≤ b ∧ b ≤ 4611686018427387904 := ⟨hb.1, hm.1⟩
    rw [decide_eq_true hm]
    simp only [Bool.not_true, cond_false]
    rw [cond_decide]
    by_cases h6 : (es.length : Int) > 600
    · rw [if_pos h6]
    rw [if_neg h6, e_Merge hb' hm.2 hp he]
    simp only [Option.bind_some]
    have hl := mergeS_len (b := b) (t := t) (p := p) (q := q) (es := es) hm.2
    cases hok : (mergeS b t xs p q es).2.2 with
    | false =>
      simp only [Bool.not_false, cond_true]
      rw [e_Is (by omega) (by omega)]
      have hsame : (mergeS b t xs p q es).1 = xs := by
        have hlay : ∀ (a : Nat) (last : Int) (es : List E), (layS xs a last es).2.2 = false → (layS xs a last es).1 = xs := by
          intro a last es
          unfold layS
          split
          · intro h; rfl
          · split
            · intro h; rfl
            · intro h; cases h
        unfold mergeS at hok ⊢
        split
        · rfl
        · rename_i h1
          rw [if_neg h1] at hok
          split
          · rename_i h2
            rw [if_pos h2] at hok
            split
            · rfl
            · rename_i h3
              rw [if_neg h3] at hok
              exact hlay _ _ _ hok
          · rename_i h2
            rw [if_neg h2] at hok
            split
            · rename_i h3
              rw [if_pos h3] at hok
              exact hlay _ _ _ hok
            · rfl
      rw [hsame, decide_eq_true ⟨rfl, rfl, rfl⟩]
      rfl
    | true =>
      obtain ⟨h1, h2, h3, _⟩ := merged hok hb.1
      have hp' : 0 ≤ p ∧ p ≤ 9223372036854775808 := ⟨hp.1, h2⟩
      have hterm := fun i hi hpb => merged_term (i := i) hok hb.1 hp.1 hi hpb
      have hent := fun i h1 h2 h3 => merged_entry (i := i) hok hb.1 hp.1 h1 h2 h3
      have hag := merged_again hok hb.1 hp.1
      have hle := fun k => merged_less hok hb.1 hp.1 k
      simp only [h1]
      generalize (mergeS b t xs p q es).1 = ys at hl hterm hent hag hle
      simp only [Bool.not_true, cond_false]
      rw [u64id (n := (es.length : Int)) (by omega) (by omega), u64id (n := p + es.length) (by omega) (by omega), cond_nei, if_pos rfl, cond_nei, if_pos rfl, cond_nei, if_pos rfl]
      have hA := Again_loop9 (less := less) (n := p + es.length) (q := q) (xs := xs) hb' hp' (by omega) hl hterm es.length 0 (by omega)
      rw [show ((0 : Nat) : Int) = 0 from rfl] at hA
      rw [hA]
      simp only [Option.bind_some, Sum.elim_inr]
      have hB := Again_loop15 (t := t) (less := less) (n := p + es.length) (q := q) (es := es) hb' hp' hm.2 hl hent xs.length 0 (by omega)
      rw [show b + ((0 : Nat) : Int) + 1 = b + 1 by omega] at hB
      rw [u64id (n := b + 1) (by omega) (by omega), hB]
      simp only [Option.bind_some, Sum.elim_inr]
      rw [e_Merge hb' hl hp he, hag]
      simp only [Option.bind_some, Bool.not_true, cond_false]
      rw [cond_nei, if_pos rfl, e_Is (by omega) (by omega), decide_eq_true ⟨rfl, rfl, rfl⟩]
      simp only [Option.bind_some, Bool.not_true, cond_false]
      rw [cond_decide, cond_decide]
      by_cases hl0 : less < 0
      · rw [if_pos hl0]
      rw [if_neg hl0]
      by_cases hl1 : less > es.length
      · rw [if_pos hl1]
      rw [if_neg hl1, cd_t (by omega), cd_t (by omega), List.drop_zero, e_Merge hb' hl hp (by simp; omega), hle]
      simp only [Option.bind_some, cond_true]
      have hk : ((es.take less.toNat).length : Int) = less := by simp; omega
      rw [hk, u64id (n := less) (by omega) (by omega), u64id (n := p + less) (by omega) (by omega), cond_eqi, if_pos rfl, e_Is (by omega) (by omega), decide_eq_true ⟨rfl, rfl, rfl⟩]
      rfl
  · rw [decide_eq_false hm]
    rfl
end Go.Proofs.Ytlmiaagcnhgfmaa.S2
