/- Numbers as bytes, in plain words. -/
import Derived.Test.YtgakbdikappdbaaGwire
import Derived.Test.YtgakbdikappdbaaPbase
set_option linter.unusedVariables false
set_option linter.unusedSimpArgs false
namespace Go.Proofs.Ytgakbdikappdbaa.S2
open Go
def putL (n : Nat) : List UInt8 := if n < 128 then [UInt8.ofNat n] else UInt8.ofNat (n % 128 + 128) :: putL (n / 128)
termination_by n
decreasing_by omega
theorem putL_small {n : Nat} (h : n < 128) : putL n = [UInt8.ofNat n] := by rw [putL, if_pos h]
theorem putL_big {n : Nat} (h : ¬ n < 128) : putL n = UInt8.ofNat (n % 128 + 128) :: putL (n / 128) := by rw [putL, if_neg h]
def bytesI (l : List Int) : List UInt8 := l.map fun n => UInt8.ofNat n.toNat
theorem and127 : ∀ b : Fin 256, (BitVec.ofNat 8 b.val &&& BitVec.ofNat 8 127).toNat = b.val % 128 := by decide +kernel
def putB (n : Int) : ByteArray := ⟨(putL n.toNat).toArray⟩
theorem bs_put (n : Int) : bs (putB n) = putL n.toNat := rfl
theorem putL_len : ∀ (k n : Nat), n < 128 ^ (k + 1) → (putL n).length ≤ k + 1
  | 0, n, h => by rw [putL_small (by simpa using h)]; simp
  | k + 1, n, h => by
    by_cases hn : n < 128
    · rw [putL_small hn]; simp
    · rw [putL_big hn]
      have := putL_len k (n / 128) (by rw [Nat.pow_succ] at h; omega)
      simp; omega
theorem putL_len10 {n : Nat} (h : n < 18446744073709551616) : (putL n).length ≤ 10 := putL_len 9 n (by have : (128 : Nat) ^ (9 + 1) = 1180591620717411303424 := (by decide); omega)
def takL : Nat → Nat → List UInt8 → Option (Nat × List UInt8)
  | _, _, [] => none
  | i, n, c :: l =>
    if i = 9 ∧ c.toNat > 1 then none
    else if c.toNat < 128 then (if c.toNat = 0 ∧ i > 0 then none else some (n + c.toNat % 128 * 128 ^ i, l))
    else takL (i + 1) (n + c.toNat % 128 * 128 ^ i) l
theorem takL_put : ∀ (l : List UInt8) (f n i m : Nat), n < 128 ^ f → i ≤ 9 → n * 128 ^ i < 18446744073709551616 → (i = 0 ∨ n ≠ 0) → takL i m (putL n ++ l) = some (m + n * 128 ^ i, l)
  | l, 0, n, i, m, hf, hi, hn, h0 => by
    have : n = 0 := by simpa using hf
    subst this
    have : i = 0 := by omega
    subst this
    rw [putL_small (by decide)]
    simp [takL]
  | l, f + 1, n, i, m, hf, hi, hn, h0 => by
    by_cases hs : n < 128
    · rw [putL_small hs]
      have hb : (UInt8.ofNat n).toNat = n := by rw [UInt8.toNat_ofNat']; omega
      simp only [List.singleton_append, takL, hb]
      have h9 : ¬ (i = 9 ∧ n > 1) := by
        rintro ⟨rfl, h⟩
        have : (128 : Nat) ^ 9 = 9223372036854775808 := by decide
        rw [this] at hn
        omega
      rw [if_neg h9, if_pos hs, if_neg (by omega), Nat.mod_eq_of_lt hs]
    · rw [putL_big hs]
      have hb : (UInt8.ofNat (n % 128 + 128)).toNat = n % 128 + 128 := by rw [UInt8.toNat_ofNat']; omega
      simp only [List.cons_append, takL, hb]
      have hi8 : i ≤ 8 := by
        rcases Nat.lt_or_ge 8 i with h | h
        · have : i = 9 := by omega
          subst this
          have : (128 : Nat) ^ 9 = 9223372036854775808 := by decide
          rw [this] at hn
          omega
        · exact h
      have hdiv : n / 128 * 128 ^ (i + 1) ≤ n * 128 ^ i := by
        rw [Nat.pow_succ, Nat.mul_comm (128 ^ i) 128, ← Nat.mul_assoc]
        exact Nat.mul_le_mul_right _ (by omega)
      rw [if_neg (by omega), if_neg (by omega), takL_put l f (n / 128) (i + 1) _ (by rw [Nat.pow_succ] at hf; omega) (by omega) (by omega) (.inr (by omega))]
      congr 2
      have e1 : (n % 128 + 128) % 128 = n % 128 := by omega
      rw [e1, Nat.add_assoc, Nat.pow_succ, Nat.mul_comm (128 ^ i) 128, ← Nat.mul_assoc, ← Nat.add_mul]
      congr 2
      omega
theorem takL_back : ∀ (s : List UInt8) (i m r : Nat) (l : List UInt8), i ≤ 9 → takL i m s = some (r, l) → ∃ n, s = putL n ++ l ∧ r = m + n * 128 ^ i ∧ (i = 0 ∨ n ≠ 0) ∧ n * 128 ^ i < 18446744073709551616
  | [], i, m, r, l, hi, h => by cases h
  | c :: s, i, m, r, l, hi, h => by
    have hc := c.toNat_lt
    have hce : UInt8.ofNat c.toNat = c := UInt8.toNat_inj.1 (by rw [UInt8.toNat_ofNat']; omega)
    have hp : 128 ^ i ≤ 128 ^ 9 := Nat.pow_le_pow_right (by decide) hi
    have h9 : (128 : Nat) ^ 9 = 9223372036854775808 := by decide
    simp only [takL] at h
    split at h
    · cases h
    · rename_i h1
      split at h
      · rename_i h2
        split at h
        · cases h
        · rename_i h3
          cases h
          refine ⟨c.toNat, by rw [putL_small h2, hce]; rfl, by rw [Nat.mod_eq_of_lt h2], by omega, ?_⟩
          by_cases hi9 : i = 9
          · subst hi9
            rw [h9]
            omega
          · have : 128 ^ i ≤ 128 ^ 8 := Nat.pow_le_pow_right (by decide) (by omega)
            have h8 : (128 : Nat) ^ 8 = 72057594037927936 := by decide
            calc c.toNat * 128 ^ i ≤ 127 * 128 ^ 8 := Nat.mul_le_mul (by omega) this
              _ < _ := by rw [h8]; decide
      · rename_i h2
        have hi9 : i ≠ 9 := fun e => h1 ⟨e, by omega⟩
        obtain ⟨n, e1, e2, e3, e4⟩ := takL_back s (i + 1) _ r l (by omega) h
        refine ⟨c.toNat % 128 + 128 * n, ?_, ?_, by omega, ?_⟩
        · rw [putL_big (n := c.toNat % 128 + 128 * n) (by omega), show (c.toNat % 128 + 128 * n) % 128 + 128 = c.toNat by omega, show (c.toNat % 128 + 128 * n) / 128 = n by omega, hce, List.cons_append, ← e1]
        · rw [e2, Nat.add_mul, Nat.add_assoc, Nat.pow_succ, Nat.mul_comm (128 ^ i) 128, ← Nat.mul_assoc, Nat.mul_comm n 128]
        · have : (c.toNat % 128 + 128 * n) * 128 ^ i = c.toNat % 128 * 128 ^ i + n * 128 ^ (i + 1) := by
            rw [Nat.add_mul, Nat.pow_succ, Nat.mul_comm (128 ^ i) 128, ← Nat.mul_assoc, Nat.mul_comm n 128]
          rw [this]
          -- the sum of the low part and a multiple
          have h64 : (18446744073709551616 : Nat) = 128 ^ (i + 1) * (18446744073709551616 / 128 ^ (i + 1)) ∨ i = 9 ∨ i = 8 ∨ True := .inr (.inr (.inr trivial))
          have hlow : c.toNat % 128 * 128 ^ i ≤ 127 * 128 ^ i := Nat.mul_le_mul_right _ (by omega)
          have hdvd : ∃ q, 18446744073709551616 = q * 128 ^ (i + 1) ∨ (i = 9) := ⟨18446744073709551616 / 128 ^ (i + 1), by
            have : i = 0 ∨ i = 1 ∨ i = 2 ∨ i = 3 ∨ i = 4 ∨ i = 5 ∨ i = 6 ∨ i = 7 ∨ i = 8 := by omega
            rcases this with h | h | h | h | h | h | h | h | h <;> subst h <;> left <;> decide⟩
          obtain ⟨q, hq⟩ := hdvd
          rcases hq with hq | hq
          · have hlt : n < q := by
              rcases Nat.lt_or_ge n q with h | h
              · exact h
              · have := Nat.mul_le_mul_right (128 ^ (i + 1)) h
                omega
            have hle := Nat.mul_le_mul_right (128 ^ (i + 1)) (show n + 1 ≤ q from hlt)
            rw [Nat.add_mul, Nat.one_mul] at hle
            have : (128 : Nat) ^ (i + 1) = 128 * 128 ^ i := by rw [Nat.pow_succ, Nat.mul_comm]
            have hpos : 0 < 128 ^ i := Nat.pos_of_ne_zero (by simp)
            omega
          · exact absurd hq hi9
def takS (s : ByteArray) : Int × ByteArray × Bool :=
  match takL 0 0 (bs s) with
  | some (n, l) => ((n : Int), ⟨l.toArray⟩, true)
  | none => (0, ByteArray.empty, false)
theorem shift7 {n c i : Nat} (hc : c < 256) (hi : i ≤ 9) (h9 : ¬ (i = 9 ∧ c > 1)) (hn : n < 128 ^ i) :
    IntKind.u64.wrap (((BitVec.ofInt 64 (n : Int) ||| BitVec.ofInt 64 (IntKind.u64.wrap (IntKind.u64.wrap (IntKind.u8.wrap (((BitVec.ofInt 8 (c : Int) &&& BitVec.ofInt 8 127).toNat : Nat) : Int)) * 2 ^ Min.min (IntKind.i64.wrap (7 * (i : Int))).toNat 64))).toNat : Nat) : Int) = ((n + c % 128 * 128 ^ i : Nat) : Int) := by
  have ha := and127 ⟨c, hc⟩
  dsimp only at ha
  rw [show BitVec.ofInt 8 (127 : Int) = BitVec.ofNat 8 127 from rfl, show BitVec.ofInt 8 ((c : Nat) : Int) = BitVec.ofNat 8 c from BitVec.ofInt_natCast .., ha, i64id (by omega) (by omega), u8w, show ((c % 128 : Nat) : Int) % 256 = ((c % 128 : Nat) : Int) by omega, u64id (n := ((c % 128 : Nat) : Int)) (by omega) (by omega),
    show Min.min (7 * (i : Int)).toNat 64 = 7 * i by rw [Nat.min_def]; split <;> omega]
  have hp : (2 : Int) ^ (7 * i) = ((128 ^ i : Nat) : Int) := by rw [Int.pow_mul]; simp
  have h9' : (128 : Nat) ^ 9 = 9223372036854775808 := by decide
  have hlow : c % 128 * 128 ^ i < 18446744073709551616 := by
    by_cases hi9 : i = 9
    · subst hi9
      rw [h9']
      omega
    · have : 128 ^ i ≤ 128 ^ 8 := Nat.pow_le_pow_right (by decide) (by omega)
      have h8 : (128 : Nat) ^ 8 = 72057594037927936 := by decide
      calc c % 128 * 128 ^ i ≤ 127 * 128 ^ 8 := Nat.mul_le_mul (by omega) this
        _ < _ := by rw [h8]; decide
  have hpi : 128 ^ i ≤ 128 ^ 9 := Nat.pow_le_pow_right (by decide) hi
  rw [hp, show ((c % 128 : Nat) : Int) * ((128 ^ i : Nat) : Int) = ((c % 128 * 128 ^ i : Nat) : Int) by simp, u64id (n := ((c % 128 * 128 ^ i : Nat) : Int)) (by omega) (by omega), BitVec.ofInt_natCast, BitVec.ofInt_natCast, BitVec.toNat_or, BitVec.toNat_ofNat, BitVec.toNat_ofNat, Nat.mod_eq_of_lt (by omega), Nat.mod_eq_of_lt (by omega)]
  have hor : n ||| c % 128 * 128 ^ i = n + c % 128 * 128 ^ i := by
    have h2 : (128 : Nat) ^ i = 2 ^ (7 * i) := by rw [Nat.pow_mul]
    have := Nat.two_pow_add_eq_or_of_lt (show n < 2 ^ (7 * i) by rw [← h2]; exact hn) (c % 128)
    rw [Nat.or_comm, h2, Nat.mul_comm, ← this]
    omega
  rw [hor, u64id]
  · omega
  · by_cases hi9 : i = 9
    · subst hi9
      rw [h9'] at hn ⊢
      omega
    · have hp8 : 128 ^ i ≤ 128 ^ 8 := Nat.pow_le_pow_right (by decide) (by omega)
      have h8 : (128 : Nat) ^ 8 = 72057594037927936 := by decide
      have : c % 128 * 128 ^ i ≤ 127 * 128 ^ 8 := Nat.mul_le_mul (by omega) hp8
      rw [h8] at this hp8
      omega
theorem TakeUint_loop (s : ByteArray) : ∀ (l pre : List UInt8) (i n : Nat), bs s = pre ++ l → pre.length = i → i ≤ 9 → n < 128 ^ i →
    L_wire_TakeUint_3 (s, (n : Int), (s.size : Int), (i : Int), ()) () = match takL i n l with | some (r, l') => some (.inr (((r : Int), ⟨l'.toArray⟩, true, ()), ())) | none => some (.inl ((), ()))
  | [], pre, i, n, hs, hi, h9, hn => by
    have hsz : s.size = i := by rw [← bs_len, hs]; simpa using hi
    rw [Le_wire_TakeUint_3]
    unfold ltree_wire_TakeUint_3
    rw [cd_f (by omega)]
    rfl
  | c :: l, pre, i, n, hs, hi, h9, hn => by
    have hsz : s.size = i + (l.length + 1) := by rw [← bs_len, hs, List.length_append, hi, List.length_cons]
    have hc := c.toNat_lt
    have hat : strAt s (i : Int) = (c.toNat : Int) := by
      rw [strAt_bs, hs, List.getD_eq_getElem?_getD, List.getElem?_append_right (by omega), hi, Nat.sub_self]
      rfl
    have hext : s.extract ((i : Int) + 1).toNat s.size = ⟨l.toArray⟩ := by
      apply bs_inj
      rw [bs_extract, hs, show ((i : Int) + 1).toNat = i + 1 by omega, List.drop_append, List.drop_of_length_le (by omega), List.nil_append, hi, show i + 1 - i = 1 by omega, List.drop_one, List.tail_cons, List.take_of_length_le (by omega), bs_mk]
    rw [Le_wire_TakeUint_3]
    unfold ltree_wire_TakeUint_3
    rw [cd_t (by omega), cd_t (by omega), cd_t (by omega), cond_eqi]
    rw [hat]
    simp only [takL]
    rw [i64id (n := (i : Int) + 1) (by omega) (by omega)]
    by_cases hi9 : i = 9
    · rw [if_pos (show (i : Int) = 9 by omega), cond_decide]
      by_cases hc1 : c.toNat > 1
      · rw [if_pos (show (c.toNat : Int) > 1 by omega), if_pos ⟨hi9, hc1⟩]
      · rw [if_neg (show ¬ (c.toNat : Int) > 1 by omega), if_neg (fun h => hc1 h.2)]
        have hsh := shift7 hc h9 (fun h => hc1 h.2) hn
        rw [i64id (n := 7 * (i : Int)) (by omega) (by omega)] at hsh ⊢
        rw [cd_t (by omega)]
        by_cases h128 : c.toNat < 128
        · rw [cd_t (show (c.toNat : Int) < 128 by omega), if_pos h128, cond_eqi]
          by_cases hz : c.toNat = 0
          · rw [if_pos (show (c.toNat : Int) = 0 by omega), cond_decide]
            by_cases hi0 : i > 0
            · rw [if_pos (show (i : Int) > 0 by omega), if_pos ⟨hz, hi0⟩]
            · rw [if_neg (show ¬ (i : Int) > 0 by omega), if_neg (fun h => hi0 h.2), cd_t (by omega), cd_t (by omega), hsh, hext]
          · rw [if_neg (show ¬ (c.toNat : Int) = 0 by omega), if_neg (fun h => hz h.1), cd_t (by omega), cd_t (by omega), hsh, hext]
        · rw [cd_f (show ¬ (c.toNat : Int) < 128 by omega), if_neg h128, hsh, show ((i : Int) + 1) = ((i + 1 : Nat) : Int) by omega]
          exact TakeUint_loop s l (pre ++ [c]) (i + 1) _ (by rw [hs]; simp) (by simp [hi]) (by omega) (by
            have : c.toNat % 128 ≤ 127 := by omega
            have := Nat.mul_le_mul_right (128 ^ i) this
            rw [Nat.pow_succ]
            omega)
    · rw [if_neg (show ¬ (i : Int) = 9 by omega), if_neg (fun h => hi9 h.1)]
      have hsh := shift7 hc h9 (fun h => hi9 h.1) hn
      rw [i64id (n := 7 * (i : Int)) (by omega) (by omega)] at hsh ⊢
      rw [cd_t (by omega)]
      by_cases h128 : c.toNat < 128
      · rw [cd_t (show (c.toNat : Int) < 128 by omega), if_pos h128, cond_eqi]
        by_cases hz : c.toNat = 0
        · rw [if_pos (show (c.toNat : Int) = 0 by omega), cond_decide]
          by_cases hi0 : i > 0
          · rw [if_pos (show (i : Int) > 0 by omega), if_pos ⟨hz, hi0⟩]
          · rw [if_neg (show ¬ (i : Int) > 0 by omega), if_neg (fun h => hi0 h.2), cd_t (by omega), cd_t (by omega), hsh, hext]
        · rw [if_neg (show ¬ (c.toNat : Int) = 0 by omega), if_neg (fun h => hz h.1), cd_t (by omega), cd_t (by omega), hsh, hext]
      · rw [cd_f (show ¬ (c.toNat : Int) < 128 by omega), if_neg h128, hsh, show ((i : Int) + 1) = ((i + 1 : Nat) : Int) by omega]
        exact TakeUint_loop s l (pre ++ [c]) (i + 1) _ (by rw [hs]; simp) (by simp [hi]) (by omega) (by
          have : c.toNat % 128 ≤ 127 := by omega
          have := Nat.mul_le_mul_right (128 ^ i) this
          rw [Nat.pow_succ]
          omega)
theorem e_TakeUint {s : ByteArray} : F_wire_TakeUint (s, ()) () = some (((takS s).1, (takS s).2.1, (takS s).2.2, ()), ()) := by
  rw [Fe_wire_TakeUint]
  unfold tree_wire_TakeUint takS
  have := TakeUint_loop s (bs s) [] 0 0 rfl rfl (by decide) (by decide)
  rw [show ((0 : Nat) : Int) = 0 from rfl] at this
  rw [this]
  cases takL 0 0 (bs s) with
  | none => rfl
  | some p => rfl
theorem tak_back {s : ByteArray} (h : (takS s).2.2 = true) : ∃ n : Nat, (takS s).1 = (n : Int) ∧ n < 18446744073709551616 ∧ bs s = putL n ++ bs (takS s).2.1 := by
  unfold takS at h ⊢
  cases he : takL 0 0 (bs s) with
  | none => rw [he] at h; cases h
  | some p =>
    obtain ⟨r, l⟩ := p
    obtain ⟨n, e1, e2, e3, e4⟩ := takL_back (bs s) 0 0 r l (by decide) he
    simp at e2 e4
    subst e2
    exact ⟨_, rfl, e4, e1⟩
theorem tak_none {s : ByteArray} (h : (takS s).2.2 = false) : takS s = (0, ByteArray.empty, false) := by
  unfold takS at h ⊢
  cases he : takL 0 0 (bs s) with
  | none => rfl
  | some p => rw [he] at h; cases h
theorem takS_lt (s : ByteArray) : 0 ≤ (takS s).1 ∧ (takS s).1 < 18446744073709551616 := by
  cases h : (takS s).2.2 with
  | false => rw [tak_none h]; exact ⟨Int.le_refl 0, show (0 : Int) < 18446744073709551616 by decide⟩
  | true =>
    obtain ⟨n, e, hn, _⟩ := tak_back h
    omega
theorem tak_size {s : ByteArray} : (takS s).2.1.size ≤ s.size := by
  cases h : (takS s).2.2 with
  | false => rw [tak_none h]; exact Nat.zero_le _
  | true =>
    obtain ⟨n, e, hn, hb⟩ := tak_back h
    rw [← bs_len, ← bs_len, hb, List.length_append]
    omega
end Go.Proofs.Ytgakbdikappdbaa.S2
