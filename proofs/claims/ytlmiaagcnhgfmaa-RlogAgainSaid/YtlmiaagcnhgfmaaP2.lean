/- Merging: the program, the document. -/
import Derived.Test.YtlmiaagcnhgfmaaP1
set_option linter.unusedVariables false
set_option linter.unusedSimpArgs false
namespace Go.Proofs.Ytlmiaagcnhgfmaa.S2
open Go

theorem e_cover {b t p q : Int} {xs es : List E} (hb : U b) (hp : U p) (hel : es.length ≤ 140737488355328) :
    F_rlog_cover ((b, t, xs, ()), p, q, es, ()) () = some (if p ≥ b then (p, q, es, true, ()) else if (es.length : Int) < b - p then (0, 0, [], false, ()) else (b, t, es.drop (b - p).toNat, true, ()), ()) := by
  obtain ⟨hb0, hb1⟩ := hb
  obtain ⟨hp0, hp1⟩ := hp
  rw [Fe_rlog_cover]
  unfold tree_rlog_cover
  rw [cond_decide]
  by_cases h1 : p ≥ b
  · rw [if_pos h1, if_pos h1]
  · rw [if_neg h1, if_neg h1, u64id (n := b - p) (by omega) (by omega), u64id (n := (es.length : Int)) (by omega) (by omega), cond_decide]
    by_cases h2 : (es.length : Int) < b - p
    · rw [if_pos h2, if_pos h2]
    · rw [if_neg h2, if_neg h2, cd_t (by omega), cd_t (by omega), List.take_length]

theorem e_Merge {b t p q : Int} {xs es : List E} (hb : 0 ≤ b ∧ b ≤ 4611686018427387904) (hxl : xs.length ≤ 256) (hp : U p) (hel : es.length ≤ 140737488355328) :
    F_rlog_Merge ((b, t, xs, ()), p, q, es, ()) () = some (((b, t, (mergeS b t xs p q es).1, ()), (mergeS b t xs p q es).2.1, (mergeS b t xs p q es).2.2, ()), ()) := by
  obtain ⟨hp0, hp1⟩ := hp
  have hU : U b := ⟨hb.1, by omega⟩
  rw [Fe_rlog_Merge]
  unfold tree_rlog_Merge mergeS
  rw [e_with (by omega)]
  simp only [Option.bind_some]
  rw [cond_decide]
  by_cases h1 : p > 9223372036854775808
  · rw [if_pos h1, if_pos (.inl h1)]
  rw [if_neg h1, u64id (n := 9223372036854775808 - p) (by omega) (by omega), u64id (n := (es.length : Int)) (by omega) (by omega), cond_decide]
  by_cases h2 : (es.length : Int) > 9223372036854775808 - p
  · rw [if_pos h2, if_pos (.inr h2)]
  rw [if_neg h2, if_neg (by omega), e_cover hU ⟨hp0, hp1⟩ hel, u64id (n := p + es.length) (by omega) (by omega)]
  simp only [Option.bind_some]
  by_cases h3 : p ≥ b
  · simp only [if_pos h3]
    rw [if_neg (by omega)]
    simp only [Bool.not_true, cond_false]
    rw [e_rlog_Term hU ⟨hp0, hp1⟩ (by omega)]
    simp only [Option.bind_some]
    by_cases h4 : (termS b t xs p).2 = true
    · rw [h4]
      simp only [Bool.not_true, cond_false]
      rw [cond_nei]
      by_cases h5 : (termS b t xs p).1 = q
      · rw [if_pos h5, if_pos (Prod.ext h5 h4)]
        have ha : (p - b).toNat ≤ xs.length := by
          unfold termS at h4
          split at h4
          · omega
          · unfold entS at h4
            split at h4
            · omega
            · cases h4
        have e1 : IntKind.i64.wrap (IntKind.u64.wrap (p - b)) = ((p - b).toNat : Int) := by rw [u64id (by omega) (by omega), i64id] <;> omega
        have := Merge_loop b t 0 0 b t (p + es.length) xs xs es (p - b).toNat ha hxl hel es.length 0 (by omega) (Nat.zero_le _)
        rw [show ((0 : Nat) : Int) = 0 from rfl] at this
        rw [e1, this]
        unfold layS
        by_cases h6 : agree (xs.drop (p - b).toNat) es = es.length
        · rw [if_pos h6, if_pos h6]; rfl
        · rw [if_neg h6, if_neg h6]
          by_cases h7 : (p - b).toNat + es.length > 256
          · rw [if_pos h7, if_pos h7]; rfl
          · rw [if_neg h7, if_neg h7]; rfl
      · rw [if_neg h5, if_neg (fun h => h5 (congrArg Prod.fst h))]
    · rw [eq_false_of_ne_true h4, if_neg (fun h => h4 (congrArg Prod.snd h))]
      rfl
  · simp only [if_neg h3]
    rw [if_pos (show p < b by omega)]
    by_cases h4 : (es.length : Int) < b - p
    · simp only [if_pos h4]
      rfl
    · simp only [if_neg h4, Bool.not_true, cond_false]
      rw [e_rlog_Term hU hU (by omega)]
      simp only [Option.bind_some, termS, if_true, Bool.not_true, cond_false]
      rw [cond_nei, if_pos rfl]
      have e1 : IntKind.i64.wrap (IntKind.u64.wrap (b - b)) = ((0 : Nat) : Int) := by rw [Int.sub_self]; decide
      have := Merge_loop b t 0 0 b t (p + es.length) xs xs (es.drop (b - p).toNat) 0 (Nat.zero_le _) hxl (by simp; omega) (es.drop (b - p).toNat).length 0 (by omega) (Nat.zero_le _)
      rw [show ((0 : Nat) : Int) = 0 from rfl] at this e1
      rw [e1, this]
      unfold layS
      by_cases h6 : agree (xs.drop 0) (es.drop (b - p).toNat) = (es.drop (b - p).toNat).length
      · rw [if_pos h6, if_pos h6]; rfl
      · rw [if_neg h6, if_neg h6]
        by_cases h7 : 0 + (es.drop (b - p).toNat).length > 256
        · rw [if_pos h7, if_pos h7]; rfl
        · rw [if_neg h7, if_neg h7]; rfl

/-! ### the document's -/

theorem rMerge_cover (b t z1 z2 last : Int) (xs : List E) (hb : b ≤ 4611686018427387904) : ∀ (es : List E) (p q : Int), 0 ≤ p → es.length ≤ 140737488355328 → 
    L_ref15_Merge_4 (p, q, es, last, ()) ((b, t, xs, ()), (z1, z2, ()), ()) = some ((if p ≥ b then (p, q, es, last, ()) else if (es.length : Int) < b - p then (p + es.length, (if es = [] then q else t), [], last, ()) else (b, t, es.drop (b - p).toNat, last, ())),
      ((b, t, xs, ()), (z1, z2, ()), ()))
  | [], p, q, hp, hel => by
    rw [Le_ref15_Merge_4]
    unfold ltree_ref15_Merge_4
    rw [cond_decide]
    by_cases h1 : p < b
    · rw [if_pos h1, cd_f (by simp), if_neg (by omega), if_pos (by simp; omega)]
      simp
    · rw [if_neg h1, if_pos (show p ≥ b by omega)]
  | e :: es, p, q, hp, hel => by
    simp at hel
    rw [Le_ref15_Merge_4]
    unfold ltree_ref15_Merge_4
    rw [cond_decide]
    by_cases h1 : p < b
    · rw [if_pos h1, cd_t (by simp), cd_t (by simp; omega), List.take_length, u64id (n := p + 1) (by omega) (by omega), List.drop_one, List.tail_cons, rMerge_cover b t z1 z2 last xs hb es (p + 1) t (by omega) (by omega), if_neg (show ¬ p ≥ b by omega), ite_self]
      by_cases h2 : p + 1 ≥ b
      · rw [if_pos h2, if_neg (by simp; omega), show p + 1 = b by omega, show (b - p).toNat = 1 by omega]
        rfl
      · rw [if_neg h2]
        by_cases h3 : (es.length : Int) < b - (p + 1)
        · rw [if_pos h3, if_pos (by simp; omega), if_neg (by simp)]
          simp
          omega
        · rw [if_neg h3, if_neg (by simp; omega), show (b - p).toNat = (b - (p + 1)).toNat + 1 by omega]
          rfl
    · rw [if_neg h1, if_pos (show p ≥ b by omega)]

theorem rMerge_loop (b t z1 z2 last p : Int) (xs es : List E) (a : Nat) (hb : 0 ≤ b ∧ b ≤ 4611686018427387904) (hp : p = b + a) (ha : a ≤ xs.length) (hxl : xs.length ≤ 256) (hel : es.length ≤ 1099511627776) : ∀ (d k : Nat), k + d = es.length → k ≤ agree (xs.drop a) es →
    L_ref15_Merge_14 (p, es, last, (k : Int), ()) ((b, t, xs, ()), (z1, z2, ()), ()) =
      if agree (xs.drop a) es = es.length then some (.inr ((last, ()), ((b, t, xs, ()), (z1, z2, ()), ())))
      else if a + es.length > 256 then some (.inl ((0, false, last, ()), ((b, t, xs, ()), ((b, t, xs, ()), ()))))
      else some (.inl ((last, true, last, ()), ((b, t, xs, ()), ((b, t, xs.take (a + agree (xs.drop a) es) ++ es.drop (agree (xs.drop a) es), ()), ()))))
  | 0, k, h, hk => by
    have := (agree_le (xs.drop a) es).2
    rw [Le_ref15_Merge_14]
    unfold ltree_ref15_Merge_14
    rw [cd_f (by omega), if_pos (by omega)]
  | d + 1, k, h, hk => by
    have hkl : k < es.length := by omega
    rw [Le_ref15_Merge_14]
    unfold ltree_ref15_Merge_14
    have hka : a + k ≤ xs.length := by
      have := (agree_le (xs.drop a) es).1
      simp at this
      omega
    have w0 : IntKind.u64.wrap (k : Int) = k := u64id (by omega) (by omega)
    have w1 : IntKind.u64.wrap (p + k) = p + k := u64id (by omega) (by omega)
    have w2 : IntKind.u64.wrap (p + k + 1) = p + k + 1 := u64id (by omega) (by omega)
    have w4 : IntKind.u64.wrap (p + k + 1 - 1) = p + k := by rw [u64id] <;> omega
    have w3 : IntKind.i64.wrap ((k : Int) + 1) = ((k + 1 : Nat) : Int) := by rw [i64id] <;> omega
    simp only [w0, w1, w2, w3, w4, Int.toNat_natCast]
    rw [cd_t (by omega), e_ref_Term hb.1 (by omega) (by omega)]
    simp only [Option.bind_some]
    have hterm : termS b t xs (p + k + 1) = if a + k < xs.length then ((xs.getD (a + k) (0, 0, ByteArray.empty)).1, true) else (0, false) := by
      unfold termS entS
      rw [if_neg (by omega)]
      by_cases h4 : a + k < xs.length
      · rw [if_pos h4, if_pos (by omega), show (p + k + 1 - b - 1 : Int).toNat = a + k by omega]
        rfl
      · rw [if_neg h4, if_neg (by omega)]
        rfl
    have hlast : ∀ (hk2 : k = agree (xs.drop a) es),
        ((F_ref15_Lay ((b, t, xs, ()), p + k, List.drop k (List.take es.length es), ()) ()).bind fun r2 =>
         bif decide ((r2.fst.snd.snd.fst.length : Int) > 256) then some (Sum.inl ((0, false, last, ()), ((b, t, xs, ()), ((b, t, xs, ()), ()))))
         else some (Sum.inl ((last, true, last, ()), ((b, t, xs, ()), ((r2.fst.fst, r2.fst.snd.fst, r2.fst.snd.snd.fst, ()), ())))) : Option LO_ref15_Merge_14) =
        if agree (xs.drop a) es = es.length then some (.inr ((last, ()), ((b, t, xs, ()), (z1, z2, ()), ())))
        else if a + es.length > 256 then some (.inl ((0, false, last, ()), ((b, t, xs, ()), ((b, t, xs, ()), ()))))
        else some (.inl ((last, true, last, ()), ((b, t, xs, ()), ((b, t, xs.take (a + agree (xs.drop a) es) ++ es.drop (agree (xs.drop a) es), ()), ())))) := by
      intro hk2
      rw [if_neg (by omega), List.take_length, e_Lay hb.1 (by omega) (by omega) (by omega) (by omega) (by simp; omega)]
      simp only [Option.bind_some]
      have e1 : (p + k - b).toNat = a + k := by omega
      have e2 : (xs.take (a + k) ++ es.drop k).length = a + es.length := by simp; omega
      rw [e1, e2]
      by_cases h256 : a + es.length > 256
      · rw [cd_t (by omega), if_pos h256]
      · rw [cd_f (by omega), if_neg h256, ← hk2]
    rcases at_k hkl hk ha with ⟨h1, h2, h3⟩ | ⟨h1, h2⟩
    · rw [hterm, if_pos h2]
      simp only [cond_true]
      rw [cd_t (by omega), cd_t (by omega), cond_eqi, if_pos h3]
      exact rMerge_loop b t z1 z2 last p xs es a hb hp ha hxl hel d (k + 1) (by omega) (by omega)
    · rw [hterm]
      by_cases h4 : a + k < xs.length
      · rw [if_pos h4]
        simp only [cond_true]
        rw [cd_t (by omega), cd_t (by omega), cond_eqi, if_neg (h2 h4), cd_t (by omega), cd_t (by omega)]
        exact hlast h1
      · rw [if_neg h4]
        simp only [cond_false]
        rw [cd_t (by omega), cd_t (by omega)]
        exact hlast h1

theorem e_ref_Merge {b t p q : Int} {xs es : List E} (hb : 0 ≤ b ∧ b ≤ 4611686018427387904) (hxl : xs.length ≤ 256) (hp : U p) (hel : es.length ≤ 1099511627776) :
    F_ref15_Merge ((b, t, xs, ()), p, q, es, ()) () = some (((b, t, (mergeS b t xs p q es).1, ()), (mergeS b t xs p q es).2.1, (mergeS b t xs p q es).2.2, ()), ()) := by
  obtain ⟨hp0, hp1⟩ := hp
  rw [Fe_ref15_Merge]
  unfold tree_ref15_Merge mergeS
  rw [cond_decide]
  by_cases h1 : p > 9223372036854775808
  · rw [if_pos h1, if_pos (.inl h1)]
  rw [if_neg h1, u64id (n := 9223372036854775808 - p) (by omega) (by omega), u64id (n := (es.length : Int)) (by omega) (by omega), cond_decide]
  by_cases h2 : (es.length : Int) > 9223372036854775808 - p
  · rw [if_pos h2, if_pos (.inr h2)]
  rw [if_neg h2, if_neg (by omega), u64id (n := p + es.length) (by omega) (by omega), rMerge_cover b t 0 0 (p + es.length) xs hb.2 es p q hp0 (by omega)]
  simp only [Option.bind_some]
  by_cases h3 : p ≥ b
  · simp only [if_pos h3]
    rw [cd_f (by omega), if_neg (by omega), e_ref_Term hb.1 (by omega) (by omega)]
    simp only [Option.bind_some]
    by_cases h4 : (termS b t xs p).2 = true
    · rw [h4]
      simp only [Bool.not_true, cond_false]
      rw [cond_nei]
      by_cases h5 : (termS b t xs p).1 = q
      · rw [if_pos h5, if_pos (Prod.ext h5 h4)]
        have ha : (p - b).toNat ≤ xs.length := by
          unfold termS at h4
          split at h4
          · omega
          · unfold entS at h4
            split at h4
            · omega
            · cases h4
        have := rMerge_loop b t 0 0 (p + es.length) p xs es (p - b).toNat hb (by omega) ha hxl hel es.length 0 (by omega) (Nat.zero_le _)
        rw [show ((0 : Nat) : Int) = 0 from rfl] at this
        rw [this]
        unfold layS
        by_cases h6 : agree (xs.drop (p - b).toNat) es = es.length
        · rw [if_pos h6, if_pos h6]; rfl
        · rw [if_neg h6, if_neg h6]
          by_cases h7 : (p - b).toNat + es.length > 256
          · rw [if_pos h7, if_pos h7]; rfl
          · rw [if_neg h7, if_neg h7]; rfl
      · rw [if_neg h5, if_neg (fun h => h5 (congrArg Prod.fst h))]
    · rw [eq_false_of_ne_true h4, if_neg (fun h => h4 (congrArg Prod.snd h))]
      rfl
  · simp only [if_neg h3]
    rw [if_pos (show p < b by omega)]
    by_cases h4 : (es.length : Int) < b - p
    · simp only [if_pos h4]
      rw [cd_t (by omega)]
    · simp only [if_neg h4]
      rw [cd_f (by omega), e_ref_Term hb.1 (by omega) (by omega)]
      simp only [Option.bind_some, termS, if_true, Bool.not_true, cond_false]
      rw [cond_nei, if_pos rfl]
      have := rMerge_loop b t 0 0 (p + es.length) b xs (es.drop (b - p).toNat) 0 hb (by omega) (Nat.zero_le _) hxl (by simp; omega) (es.drop (b - p).toNat).length 0 (by omega) (Nat.zero_le _)
      rw [show ((0 : Nat) : Int) = 0 from rfl] at this
      rw [this]
      unfold layS
      by_cases h6 : agree (xs.drop 0) (es.drop (b - p).toNat) = (es.drop (b - p).toNat).length
      · rw [if_pos h6, if_pos h6]; rfl
      · rw [if_neg h6, if_neg h6]
        by_cases h7 : 0 + (es.drop (b - p).toNat).length > 256
        · rw [if_pos h7, if_pos h7]; rfl
        · rw [if_neg h7, if_neg h7]; rfl
end Go.Proofs.Ytlmiaagcnhgfmaa.S2
