/- Merging, in plain words. -/
import Derived.Test.YtlmiaagcnhgfmaaP0
set_option linter.unusedVariables false
set_option linter.unusedSimpArgs false
namespace Go.Proofs.Ytlmiaagcnhgfmaa.S2
open Go

/-- How many first entries have the terms that stand there. -/
def agree : List E → List E → Nat
  | x :: xs, e :: es => if x.1 = e.1 then agree xs es + 1 else 0
  | _, _ => 0

theorem agree_le : ∀ (xs es : List E), agree xs es ≤ xs.length ∧ agree xs es ≤ es.length
  | [], es => by simp [agree]
  | x :: xs, [] => by simp [agree]
  | x :: xs, e :: es => by
    have := agree_le xs es
    simp only [agree]
    split <;> simp <;> omega

/-- What comes of a log, behind a place, by entries. -/
def layS (xs : List E) (at_ : Nat) (last : Int) (es : List E) : List E × Int × Bool :=
  if agree (xs.drop at_) es = es.length then (xs, last, true)
  else if at_ + es.length > 256 then (xs, 0, false)
  else (xs.take (at_ + agree (xs.drop at_) es) ++ es.drop (agree (xs.drop at_) es), last, true)

def mergeS (b t : Int) (xs : List E) (p q : Int) (es : List E) : List E × Int × Bool :=
  if p > 9223372036854775808 ∨ es.length > 9223372036854775808 - p then (xs, 0, false)
  else if p < b then
    if (es.length : Int) < b - p then (xs, p + es.length, true)
    else layS xs 0 (p + es.length) (es.drop (b - p).toNat)
  else if termS b t xs p = (q, true) then layS xs (p - b).toNat (p + es.length) es
  else (xs, 0, false)

theorem agree_step {xs es : List E} {k : Nat} (h : k < agree xs es) : k < xs.length ∧ k < es.length ∧ ∀ (h1 : k < xs.length) (h2 : k < es.length), xs[k].1 = es[k].1 := by
  induction k generalizing xs es with
  | zero =>
    cases xs with
    | nil => simp [agree] at h
    | cons x xs => cases es with
      | nil => simp [agree] at h
      | cons e es =>
        simp only [agree] at h
        split at h
        · rename_i h1; exact ⟨by simp, by simp, fun _ _ => h1⟩
        · omega
  | succ k ih =>
    cases xs with
    | nil => simp [agree] at h
    | cons x xs => cases es with
      | nil => simp [agree] at h
      | cons e es =>
        simp only [agree] at h
        split at h
        · obtain ⟨h1, h2, h3⟩ := ih (xs := xs) (es := es) (by omega)
          exact ⟨by simp; omega, by simp; omega, fun h4 h5 => by simpa using h3 h1 h2⟩
        · omega

theorem agree_stop {xs es : List E} (h1 : agree xs es < xs.length) (h2 : agree xs es < es.length) : xs[agree xs es].1 ≠ es[agree xs es].1 := by
  induction xs generalizing es with
  | nil => simp at h1
  | cons x xs ih =>
    cases es with
    | nil => simp at h2
    | cons e es =>
      by_cases hx : x.1 = e.1
      · have e1 : agree (x :: xs) (e :: es) = agree xs es + 1 := by simp [agree, hx]
        have := ih (es := es) (by rw [e1] at h1; simpa using h1) (by rw [e1] at h2; simpa using h2)
        simp only [e1]
        simpa using this
      · have e1 : agree (x :: xs) (e :: es) = 0 := by simp [agree, hx]
        simp only [e1]
        simpa using hx

/-- What a loop that lays entries does at its k-th. -/
theorem at_k {xs es : List E} {a k : Nat} (hk : k < es.length) (hka : k ≤ agree (xs.drop a) es) (ha : a ≤ xs.length) :
    (k < agree (xs.drop a) es ∧ a + k < xs.length ∧ (xs.getD (a + k) (0, 0, ByteArray.empty)).1 = (es.getD k (0, 0, ByteArray.empty)).1) ∨
    (k = agree (xs.drop a) es ∧ (a + k < xs.length → (xs.getD (a + k) (0, 0, ByteArray.empty)).1 ≠ (es.getD k (0, 0, ByteArray.empty)).1)) := by
  rcases Nat.lt_or_ge k (agree (xs.drop a) es) with h | h
  · left
    obtain ⟨h1, h2, h3⟩ := agree_step h
    have h4 := h3 h1 h2
    simp at h1
    refine ⟨h, by omega, ?_⟩
    simpa [List.getD, show a + k < xs.length by omega, h2] using h4
  · right
    have he : k = agree (xs.drop a) es := by omega
    refine ⟨he, fun hlt => ?_⟩
    have h1 : agree (xs.drop a) es < (xs.drop a).length := by simp; omega
    have := agree_stop h1 (by omega)
    simp only [← he] at this
    simpa [List.getD, hlt, hk] using this

theorem Merge_loop (b t y1 y2 o1 o2 last : Int) (xs os es : List E) (a : Nat) (ha : a ≤ xs.length) (hxl : xs.length ≤ 256) (hel : es.length ≤ 140737488355328) : ∀ (d k : Nat), k + d = es.length → k ≤ agree (xs.drop a) es →
    L_rlog_Merge_13 (es, last, (a : Int), es, (es.length : Int), (k : Int), ()) ((b, t, xs, ()), (y1, y2, ()), (o1, o2, os, ()), ()) =
      if agree (xs.drop a) es = es.length then some (.inr ((last, ()), ((y1, y2, ()), ((o1, o2, os, ()), ()))))
      else if a + es.length > 256 then some (.inl ((0, false, last, ()), ((o1, o2, os, ()), ((o1, o2, os, ()), ()))))
      else some (.inl ((last, true, last, ()), ((b, t, xs.take (a + agree (xs.drop a) es) ++ es.drop (agree (xs.drop a) es), ()), ((o1, o2, os, ()), ()))))
  | 0, k, h, hk => by
    have := (agree_le (xs.drop a) es).2
    rw [Le_rlog_Merge_13]
    unfold ltree_rlog_Merge_13
    rw [cd_f (by omega), if_pos (by omega)]
  | d + 1, k, h, hk => by
    have hkl : k < es.length := by omega
    rw [Le_rlog_Merge_13]
    unfold ltree_rlog_Merge_13
    have w1 : IntKind.i64.wrap ((a : Int) + k) = ((a + k : Nat) : Int) := by rw [i64id] <;> omega
    have w2 : IntKind.i64.wrap ((a : Int) + es.length) = ((a + es.length : Nat) : Int) := by rw [i64id] <;> omega
    have w3 : IntKind.i64.wrap ((k : Int) + 1) = ((k + 1 : Nat) : Int) := by rw [i64id] <;> omega
    simp only [w1, w2, w3, Int.toNat_natCast]
    rw [cd_t (by omega), cd_t (by omega), cd_t (by omega)]
    have hlast : ∀ (hk2 : k = agree (xs.drop a) es),
        (bif decide (((a + es.length : Nat) : Int) > 256) then some (Sum.inl ((0, false, last, ()), ((o1, o2, os, ()), ((o1, o2, os, ()), ()))))
        else bif decide (0 ≤ ((a + k : Nat) : Int)) then bif decide (((a + k : Nat) : Int) ≤ xs.length) then bif decide (0 ≤ (k : Int)) then bif decide ((k : Int) ≤ es.length) then
          (F_slices_Concat_api_Entry ([] ++ [List.drop 0 (List.take (a + k) xs)] ++ [List.drop k (List.take es.length es)], ()) ()).bind fun r3 =>
            (F_rlog_with ((b, t, xs, ()), r3.fst, ()) ()).bind fun r4 => some (Sum.inl ((last, (true, (last, ()))), ((r4.fst.fst, (r4.fst.snd.fst, (r4.fst.snd.snd.fst, ()))), ((o1, (o2, (os, ()))), ()))))
          else none else none else none else none : Option LO_rlog_Merge_13) =
        if agree (xs.drop a) es = es.length then some (.inr ((last, ()), ((y1, y2, ()), ((o1, o2, os, ()), ()))))
        else if a + es.length > 256 then some (.inl ((0, false, last, ()), ((o1, o2, os, ()), ((o1, o2, os, ()), ()))))
        else some (.inl ((last, true, last, ()), ((b, t, xs.take (a + agree (xs.drop a) es) ++ es.drop (agree (xs.drop a) es), ()), ((o1, o2, os, ()), ())))) := by
      intro hk2
      have h1 := (agree_le (xs.drop a) es).1
      simp at h1
      rw [if_neg (by omega)]
      by_cases h256 : a + es.length > 256
      · rw [cd_t (by omega), if_pos h256]
      · rw [cd_f (by omega), if_neg h256, cd_t (by omega), cd_t (by omega), cd_t (by omega), cd_t (by omega), List.drop_zero, List.take_length, e_Concat (by simp; omega)]
        simp only [Option.bind_some]
        rw [e_with (by simp; omega), hk2]
        rfl
    rcases at_k hkl hk ha with ⟨h1, h2, h3⟩ | ⟨h1, h2⟩
    · rw [cd_t (by omega), cd_t (by omega), cd_t (by omega), cond_eqi, if_pos h3]
      exact Merge_loop b t y1 y2 o1 o2 last xs os es a ha hxl hel d (k + 1) (by omega) (by omega)
    · by_cases h4 : a + k < xs.length
      · rw [cd_t (by omega), cd_t (by omega), cd_t (by omega), cond_eqi, if_neg (h2 h4)]
        exact hlast h1
      · rw [cd_f (by omega)]
        exact hlast h1
end Go.Proofs.Ytlmiaagcnhgfmaa.S2
