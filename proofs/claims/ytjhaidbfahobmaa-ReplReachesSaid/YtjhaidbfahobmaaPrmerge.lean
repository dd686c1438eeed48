/- What is merged into a log, in plain words. -/
import Derived.Test.YtjhaidbfahobmaaPrlog
set_option linter.unusedVariables false
set_option linter.unusedSimpArgs false
namespace Go.Proofs.Ytjhaidbfahobmaa.S2
open Go
/-- How many first entries have the terms that stand there. -/
def agree : List E → List E → Nat
  | x :: xs, e :: es => if x.1 = e.1 then agree xs es + 1 else 0
  | _, _ => 0

theorem agree_le : ∀ (xs es : List E), agree xs es ≤ xs.length ∧ agree xs es ≤ es.length
  | [], es => by simp [agree]
  | x :: xs, [] => by simp [agree]
  | x :: xs, e :: es => by
    have := agree_le xs es
    simp only [agree]
    split <;> simp <;> omega

/-- What comes of a log, behind a place, by entries. -/
def layS (xs : List E) (at_ : Nat) (last : Int) (es : List E) : List E × Int × Bool :=
  if agree (xs.drop at_) es = es.length then (xs, last, true)
  else if at_ + es.length > 256 then (xs, 0, false)
  else (xs.take (at_ + agree (xs.drop at_) es) ++ es.drop (agree (xs.drop at_) es), last, true)

def mergeS (b t : Int) (xs : List E) (p q : Int) (es : List E) : List E × Int × Bool :=
  if p > 9223372036854775808 ∨ es.length > 9223372036854775808 - p then (xs, 0, false)
  else if p < b then
    if (es.length : Int) < b - p then (xs, p + es.length, true)
    else layS xs 0 (p + es.length) (es.drop (b - p).toNat)
  else if termS b t xs p = (q, true) then layS xs (p - b).toNat (p + es.length) es
  else (xs, 0, false)

theorem agree_step {xs es : List E} {k : Nat} (h : k < agree xs es) : k < xs.length ∧ k < es.length ∧ ∀ (h1 : k < xs.length) (h2 : k < es.length), xs[k].1 = es[k].1 := by
  induction k generalizing xs es with
  | zero =>
    cases xs with
    | nil => simp [agree] at h
    | cons x xs => cases es with
      | nil => simp [agree] at h
      | cons e es =>
        simp only [agree] at h
        split at h
        · rename_i h1; exact ⟨by simp, by simp, fun _ _ => h1⟩
        · omega
  | succ k ih =>
    cases xs with
    | nil => simp [agree] at h
    | cons x xs => cases es with
      | nil => simp [agree] at h
      | cons e es =>
        simp only [agree] at h
        split at h
        · obtain ⟨h1, h2, h3⟩ := ih (xs := xs) (es := es) (by omega)
          exact ⟨by simp; omega, by simp; omega, fun h4 h5 => by simpa using h3 h1 h2⟩
        · omega

theorem agree_stop {xs es : List E} (h1 : agree xs es < xs.length) (h2 : agree xs es < es.length) : xs[agree xs es].1 ≠ es[agree xs es].1 := by
  induction xs generalizing es with
  | nil => simp at h1
  | cons x xs ih =>
    cases es with
    | nil => simp at h2
    | cons e es =>
      by_cases hx : x.1 = e.1
      · have e1 : agree (x :: xs) (e :: es) = agree xs es + 1 := by simp [agree, hx]
        have := ih (es := es) (by rw [e1] at h1; simpa using h1) (by rw [e1] at h2; simpa using h2)
        simp only [e1]
        simpa using this
      · have e1 : agree (x :: xs) (e :: es) = 0 := by simp [agree, hx]
        simp only [e1]
        simpa using hx

/-- What a loop that lays entries does at its k-th. -/
theorem at_k {xs es : List E} {a k : Nat} (hk : k < es.length) (hka : k ≤ agree (xs.drop a) es) (ha : a ≤ xs.length) :
    (k < agree (xs.drop a) es ∧ a + k < xs.length ∧ (xs.getD (a + k) (0, 0, ByteArray.empty)).1 = (es.getD k (0, 0, ByteArray.empty)).1) ∨
    (k = agree (xs.drop a) es ∧ (a + k < xs.length → (xs.getD (a + k) (0, 0, ByteArray.empty)).1 ≠ (es.getD k (0, 0, ByteArray.empty)).1)) := by
  rcases Nat.lt_or_ge k (agree (xs.drop a) es) with h | h
  · left
    obtain ⟨h1, h2, h3⟩ := agree_step h
    have h4 := h3 h1 h2
    simp at h1
    refine ⟨h, by omega, ?_⟩
    simpa [List.getD, show a + k < xs.length by omega, h2] using h4
  · right
    have he : k = agree (xs.drop a) es := by omega
    refine ⟨he, fun hlt => ?_⟩
    have h1 : agree (xs.drop a) es < (xs.drop a).length := by simp; omega
    have := agree_stop h1 (by omega)
    simp only [← he] at this
    simpa [List.getD, hlt, hk] using this

theorem Merge_loop (b t y1 y2 o1 o2 last : Int) (xs os es : List E) (a : Nat) (ha : a ≤ xs.length) (hxl : xs.length ≤ 256) (hel : es.length ≤ 140737488355328) : ∀ (d k : Nat), k + d = es.length → k ≤ agree (xs.drop a) es →
    L_rlog_Merge_13 (es, last, (a : Int), es, (es.length : Int), (k : Int), ()) ((b, t, xs, ()), (y1, y2, ()), (o1, o2, os, ()), ()) =
      if agree (xs.drop a) es = es.length then some (.inr ((last, ()), ((y1, y2, ()), ((o1, o2, os, ()), ()))))
      else if a + es.length > 256 then some (.inl ((0, false, last, ()), ((o1, o2, os, ()), ((o1, o2, os, ()), ()))))
      else some (.inl ((last, true, last, ()), ((b, t, xs.take (a + agree (xs.drop a) es) ++ es.drop (agree (xs.drop a) es), ()), ((o1, o2, os, ()), ()))))
  | 0, k, h, hk => by
    have := (agree_le (xs.drop a) es).2
    rw [Le_rlog_Merge_13]
    unfold ltree_rlog_Merge_13
    rw [cd_f (by omega), if_pos (by omega)]
  | d + 1, k, h, hk => by
    have hkl : k < es.length := by omega
    rw [Le_rlog_Merge_13]
    unfold ltree_rlog_Merge_13
    have w1 : IntKind.i64.wrap ((a : Int) + k) = ((a + k : Nat) : Int) := by rw [i64id] <;> omega
    have w2 : IntKind.i64.wrap ((a : Int) + es.length) = ((a + es.length : Nat) : Int) := by rw [i64id] <;> omega
    have w3 : IntKind.i64.wrap ((k : Int) + 1) = ((k + 1 : Nat) : Int) := by rw [i64id] <;> omega
    simp only [w1, w2, w3, Int.toNat_natCast]
    rw [cd_t (by omega), cd_t (by omega), cd_t (by omega)]
    have hlast : ∀ (hk2 : k = agree (xs.drop a) es),
        (bif decide (((a + es.length : Nat) : Int) > 256) then some (Sum.inl ((0, false, last, ()), ((o1, o2, os, ()), ((o1, o2, os, ()), ()))))
        else bif decide (0 ≤ ((a + k : Nat) : Int)) then bif decide (((a + k : Nat) : Int) ≤ xs.length) then bif decide (0 ≤ (k : Int)) then bif decide ((k : Int) ≤ es.length) then
          (F_s_Concat_aE ([] ++ [List.drop 0 (List.take (a + k) xs)] ++ [List.drop k (List.take es.length es)], ()) ()).bind fun r3 =>
            (F_rlog_with ((b, t, xs, ()), r3.fst, ()) ()).bind fun r4 => some (Sum.inl ((last, (true, (last, ()))), ((r4.fst.fst, (r4.fst.snd.fst, (r4.fst.snd.snd.fst, ()))), ((o1, (o2, (os, ()))), ()))))
          else none else none else none else none : Option LO_rlog_Merge_13) =
        if agree (xs.drop a) es = es.length then some (.inr ((last, ()), ((y1, y2, ()), ((o1, o2, os, ()), ()))))
        else if a + es.length > 256 then some (.inl ((0, false, last, ()), ((o1, o2, os, ()), ((o1, o2, os, ()), ()))))
        else some (.inl ((last, true, last, ()), ((b, t, xs.take (a + agree (xs.drop a) es) ++ es.drop (agree (xs.drop a) es), ()), ((o1, o2, os, ()), ())))) := by
      intro hk2
      have h1 := (agree_le (xs.drop a) es).1
      simp at h1
      rw [if_neg (by omega)]
      by_cases h256 : a + es.length > 256
      · rw [cd_t (by omega), if_pos h256]
      · rw [cd_f (by omega), if_neg h256, cd_t (by omega), cd_t (by omega), cd_t (by omega), cd_t (by omega), List.drop_zero, List.take_length, e_Concat (by simp; omega)]
        simp only [Option.bind_some]
        rw [e_with (by simp; omega), hk2]
        rfl
    rcases at_k hkl hk ha with ⟨h1, h2, h3⟩ | ⟨h1, h2⟩
    · rw [cd_t (by omega), cd_t (by omega), cd_t (by omega), cond_eqi, if_pos h3]
      exact Merge_loop b t y1 y2 o1 o2 last xs os es a ha hxl hel d (k + 1) (by omega) (by omega)
    · by_cases h4 : a + k < xs.length
      · rw [cd_t (by omega), cd_t (by omega), cd_t (by omega), cond_eqi, if_neg (h2 h4)]
        exact hlast h1
      · rw [cd_f (by omega)]
        exact hlast h1
theorem e_cover {b t p q : Int} {xs es : List E} (hb : U b) (hp : U p) (hel : es.length ≤ 140737488355328) :
    F_rlog_cover ((b, t, xs, ()), p, q, es, ()) () = some (if p ≥ b then (p, q, es, true, ()) else if (es.length : Int) < b - p then (0, 0, [], false, ()) else (b, t, es.drop (b - p).toNat, true, ()), ()) := by
  obtain ⟨hb0, hb1⟩ := hb
  obtain ⟨hp0, hp1⟩ := hp
  rw [Fe_rlog_cover]
  unfold tree_rlog_cover
  rw [cond_decide]
  by_cases h1 : p ≥ b
  · rw [if_pos h1, if_pos h1]
  · rw [if_neg h1, if_neg h1, u64id (n := b - p) (by omega) (by omega), u64id (n := (es.length : Int)) (by omega) (by omega), cond_decide]
    by_cases h2 : (es.length : Int) < b - p
    · rw [if_pos h2, if_pos h2]
    · rw [if_neg h2, if_neg h2, cd_t (by omega), cd_t (by omega), List.take_length]

theorem e_Merge {b t p q : Int} {xs es : List E} (hb : 0 ≤ b ∧ b ≤ 4611686018427387904) (hxl : xs.length ≤ 256) (hp : U p) (hel : es.length ≤ 140737488355328) :
    F_rlog_Merge ((b, t, xs, ()), p, q, es, ()) () = some (((b, t, (mergeS b t xs p q es).1, ()), (mergeS b t xs p q es).2.1, (mergeS b t xs p q es).2.2, ()), ()) := by
  obtain ⟨hp0, hp1⟩ := hp
  have hU : U b := ⟨hb.1, by omega⟩
  rw [Fe_rlog_Merge]
  unfold tree_rlog_Merge mergeS
  rw [e_with (by omega)]
  simp only [Option.bind_some]
  rw [cond_decide]
  by_cases h1 : p > 9223372036854775808
  · rw [if_pos h1, if_pos (.inl h1)]
  rw [if_neg h1, u64id (n := 9223372036854775808 - p) (by omega) (by omega), u64id (n := (es.length : Int)) (by omega) (by omega), cond_decide]
  by_cases h2 : (es.length : Int) > 9223372036854775808 - p
  · rw [if_pos h2, if_pos (.inr h2)]
  rw [if_neg h2, if_neg (by omega), e_cover hU ⟨hp0, hp1⟩ hel, u64id (n := p + es.length) (by omega) (by omega)]
  simp only [Option.bind_some]
  by_cases h3 : p ≥ b
  · simp only [if_pos h3]
    rw [if_neg (by omega)]
    simp only [Bool.not_true, cond_false]
    rw [e_rlog_Term hU ⟨hp0, hp1⟩ (by omega)]
    simp only [Option.bind_some]
    by_cases h4 : (termS b t xs p).2 = true
    · rw [h4]
      simp only [Bool.not_true, cond_false]
      rw [cond_nei]
      by_cases h5 : (termS b t xs p).1 = q
      · rw [if_pos h5, if_pos (Prod.ext h5 h4)]
        have ha : (p - b).toNat ≤ xs.length := by
          unfold termS at h4
          split at h4
          · omega
          · unfold entS at h4
            split at h4
            · omega
            · cases h4
        have e1 : IntKind.i64.wrap (IntKind.u64.wrap (p - b)) = ((p - b).toNat : Int) := by rw [u64id (by omega) (by omega), i64id] <;> omega
        have := Merge_loop b t 0 0 b t (p + es.length) xs xs es (p - b).toNat ha hxl hel es.length 0 (by omega) (Nat.zero_le _)
        rw [show ((0 : Nat) : Int) = 0 from rfl] at this
        rw [e1, this]
        unfold layS
        by_cases h6 : agree (xs.drop (p - b).toNat) es = es.length
        · rw [if_pos h6, if_pos h6]; rfl
        · rw [if_neg h6, if_neg h6]
          by_cases h7 : (p - b).toNat + es.length > 256
          · rw [if_pos h7, if_pos h7]; rfl
          · rw [if_neg h7, if_neg h7]; rfl
      · rw [if_neg h5, if_neg (fun h => h5 (congrArg Prod.fst h))]
    · rw [eq_false_of_ne_true h4, if_neg (fun h => h4 (congrArg Prod.snd h))]
      rfl
  · simp only [if_neg h3]
    rw [if_pos (show p < b by omega)]
    by_cases h4 : (es.length : Int) < b - p
    · simp only [if_pos h4]
      rfl
    · simp only [if_neg h4, Bool.not_true, cond_false]
      rw [e_rlog_Term hU hU (by omega)]
      simp only [Option.bind_some, termS, if_true, Bool.not_true, cond_false]
      rw [cond_nei, if_pos rfl]
      have e1 : IntKind.i64.wrap (IntKind.u64.wrap (b - b)) = ((0 : Nat) : Int) := by rw [Int.sub_self]; decide
      have := Merge_loop b t 0 0 b t (p + es.length) xs xs (es.drop (b - p).toNat) 0 (Nat.zero_le _) hxl (by simp; omega) (es.drop (b - p).toNat).length 0 (by omega) (Nat.zero_le _)
      rw [show ((0 : Nat) : Int) = 0 from rfl] at this e1
      rw [e1, this]
      unfold layS
      by_cases h6 : agree (xs.drop 0) (es.drop (b - p).toNat) = (es.drop (b - p).toNat).length
      · rw [if_pos h6, if_pos h6]; rfl
      · rw [if_neg h6, if_neg h6]
        by_cases h7 : 0 + (es.drop (b - p).toNat).length > 256
        · rw [if_pos h7, if_pos h7]; rfl
        · rw [if_neg h7, if_neg h7]; rfl

/-! ### the document's -/

theorem agree_self_append : ∀ (zs es : List E), zs.length ≤ es.length → agree zs es = zs.length → agree (zs ++ es.drop zs.length) es = es.length
  | [], [], _, _ => rfl
  | [], e :: es, _, _ => by
    have h : ∀ (l : List E), agree l l = l.length := by
      intro l
      induction l with
      | nil => rfl
      | cons x l ih => simp [agree, ih]
    simpa using h (e :: es)
  | z :: zs, [], h, _ => by simp at h
  | z :: zs, e :: es, h, hk => by
    simp only [agree] at hk
    split at hk
    · rename_i hz
      simp at hk h
      simp only [List.cons_append, List.length_cons, List.drop_succ_cons, agree]
      rw [if_pos hz, agree_self_append zs es h hk]
    · simp at hk

theorem agree_take : ∀ (zs es : List E) (k : Nat), k ≤ agree zs es → agree (zs.take k) es = k
  | zs, es, 0, _ => by simp [agree]
  | [], es, k + 1, h => by simp [agree] at h
  | z :: zs, [], k + 1, h => by simp [agree] at h
  | z :: zs, e :: es, k + 1, h => by
    simp only [agree] at h
    split at h
    · rename_i hz
      simp only [List.take_succ_cons, agree]
      rw [if_pos hz, agree_take zs es k (by omega)]
    · omega

/-- What is there once it was laid agrees with what was sent. -/
theorem agree_laid (zs es : List E) : agree (zs.take (agree zs es) ++ es.drop (agree zs es)) es = es.length := by
  have h := agree_le zs es
  have h1 := agree_take zs es (agree zs es) (Nat.le_refl _)
  have h2 : (zs.take (agree zs es)).length = agree zs es := by simp; omega
  have := agree_self_append (zs.take (agree zs es)) es (by omega) (by rw [h1, h2])
  rwa [h2] at this

theorem agree_prefix : ∀ (zs es : List E) (k : Nat), agree zs es = es.length → agree zs (es.take k) = (es.take k).length
  | zs, es, 0, _ => by cases zs <;> simp [agree]
  | zs, [], k + 1, _ => by cases zs <;> simp [agree]
  | [], e :: es, k + 1, h => by simp [agree] at h
  | z :: zs, e :: es, k + 1, h => by
    simp only [agree] at h
    split at h
    · rename_i hz
      simp at h
      simp only [List.take_succ_cons, agree]
      rw [if_pos hz, agree_prefix zs es k h]
      rfl
    · simp at h
end Go.Proofs.Ytjhaidbfahobmaa.S2
