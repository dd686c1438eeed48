/- The library's sort, at uint64: the numbers that break patterns. -/
import Derived.Test.YtgakbdikappdbaaPsort2
set_option linter.unusedVariables false
set_option linter.unusedSimpArgs false
namespace Go.Proofs.Ytgakbdikappdbaa.S2
open Go Go.Sort
theorem ofInt_nat (n : Nat) : BitVec.ofInt 64 (n : Int) = BitVec.ofNat 64 n := BitVec.ofInt_natCast 64 n
theorem ofInt_u (r : UInt64) : BitVec.ofInt 64 (r.toNat : Int) = r.toBitVec := by
  rw [ofInt_nat]
  apply BitVec.eq_of_toNat_eq
  rw [BitVec.toNat_ofNat]
  exact Nat.mod_eq_of_lt r.toBitVec.isLt
theorem u_xor (r s : UInt64) : IntKind.u64.wrap (((BitVec.ofInt 64 (r.toNat : Int) ^^^ BitVec.ofInt 64 (s.toNat : Int)).toNat : Nat) : Int) = ((r ^^^ s).toNat : Int) := by
  rw [ofInt_u, ofInt_u]
  have : (r.toBitVec ^^^ s.toBitVec).toNat = (r ^^^ s).toNat := rfl
  rw [this, u64id (by omega) (by have := (r ^^^ s).toBitVec.isLt; have e : (r ^^^ s).toBitVec.toNat = (r ^^^ s).toNat := rfl; omega)]
theorem u_shl13 (r : UInt64) : IntKind.u64.wrap ((r.toNat : Int) * 8192) = ((r <<< 13).toNat : Int) := by
  rw [u64w, UInt64.toNat_shiftLeft, Nat.shiftLeft_eq, show (13 : UInt64).toNat % 64 = 13 from rfl, show (2 : Nat) ^ 13 = 8192 from rfl, show (2 : Nat) ^ 64 = 18446744073709551616 from rfl]
  omega
theorem u_shl17 (r : UInt64) : IntKind.u64.wrap ((r.toNat : Int) * 131072) = ((r <<< 17).toNat : Int) := by
  rw [u64w, UInt64.toNat_shiftLeft, Nat.shiftLeft_eq, show (17 : UInt64).toNat % 64 = 17 from rfl, show (2 : Nat) ^ 17 = 131072 from rfl, show (2 : Nat) ^ 64 = 18446744073709551616 from rfl]
  omega
theorem u_shr7 (r : UInt64) : ((r.toNat : Int)).fdiv 128 = ((r >>> 7).toNat : Int) := by
  rw [UInt64.toNat_shiftRight, Nat.shiftRight_eq_div_pow, show (7 : UInt64).toNat % 64 = 7 from rfl, show (2 : Nat) ^ 7 = 128 from rfl, Int.fdiv_eq_ediv_of_nonneg _ (by omega)]
  omega
theorem e_xorshift (r : UInt64) : F_slices_xorshift_Next () (((r.toNat : Int), ()), ()) = some (((xorNext r).toNat : Int), ((((xorNext r).toNat : Int), ()), ())) := by
  rw [Fe_slices_xorshift_Next]
  unfold tree_slices_xorshift_Next
  simp only [u_shl13, u_xor, u_shr7, u_shl17]
  rfl
theorem len8 : ∀ x : Fin 256, F_bits_Len64 (((x.1 : Nat) : Int), ()) () = some (((bitsLen x.1 : Nat) : Int), ()) := by
  have h : ∀ x : Fin 256, (F_bits_Len64 (((x.1 : Nat) : Int), ()) ()).map (fun r => r.1) = some ((bitsLen x.1 : Nat) : Int) := by decide +kernel
  intro x
  have := h x
  cases hF : F_bits_Len64 (((x.1 : Nat) : Int), ()) () with
  | none => rw [hF] at this; cases this
  | some r =>
    rw [hF] at this
    obtain ⟨r, ⟨⟩⟩ := r
    cases this
    rfl
theorem e_Len {n : Nat} (h : n < 256) : F_bits_Len ((n : Int), ()) () = some ((bitsLen n : Int), ()) := by
  rw [Fe_bits_Len]
  unfold tree_bits_Len
  rw [len8 ⟨n, h⟩]
  rfl
theorem bitsLen_le {n : Nat} (h : n < 256) : bitsLen n ≤ 8 := by
  have : ∀ x : Fin 256, bitsLen x.1 ≤ 8 := by decide +kernel
  exact this ⟨n, h⟩
theorem bitsLen_pow {n : Nat} (h0 : 0 < n) (h : n < 256) : n < 2 ^ bitsLen n ∧ 2 ^ bitsLen n ≤ 2 * n := by
  have : ∀ x : Fin 256, 0 < x.1 → x.1 < 2 ^ bitsLen x.1 ∧ 2 ^ bitsLen x.1 ≤ 2 * x.1 := by decide +kernel
  exact this ⟨n, h⟩ h0
theorem e_nextPow {n : Nat} (h : n < 256) : F_slices_nextPowerOfTwo ((n : Int), ()) () = some (((2 ^ bitsLen n : Nat) : Int), ()) := by
  rw [Fe_slices_nextPowerOfTwo]
  unfold tree_slices_nextPowerOfTwo
  rw [show IntKind.u64.wrap (n : Int) = (n : Int) by rw [u64id] <;> omega, e_Len h]
  simp only [Option.bind_some]
  rw [cd_t (by omega), Int.toNat_natCast]
  have h8 := bitsLen_le h
  rw [show Min.min (bitsLen n) 64 = bitsLen n from Nat.min_eq_left (by omega)]
  have hp : 2 ^ bitsLen n ≤ 2 ^ 8 := Nat.pow_le_pow_right (by omega) h8
  have e : (1 : Int) * 2 ^ bitsLen n = ((2 ^ bitsLen n : Nat) : Int) := by rw [Int.one_mul]; push_cast; rfl
  rw [e]
  generalize 2 ^ bitsLen n = p at hp
  rw [u64id (by omega) (by omega)]
theorem size_breakStep (a l m : Nat) (st : UInt64 × Array Int) (i : Nat) : (breakStep a l m st i).2.size = st.2.size := by unfold breakStep; exact size_swp _ _ _
theorem e_break_round {a l m i : Nat} {d : Array Int} {r : UInt64} (hm0 : 0 < m) (hm : m ≤ 256) (hml : m ≤ 2 * l) (hl : a + l ≤ d.size) (hd : d.size ≤ 255) (hi : a + l / 4 * 2 - 1 ≤ i) (hi2 : i ≤ a + l / 4 * 2 + 1) (hl8 : 8 ≤ l) :
    L_slices_breakPatternsOrdered_uint64_5 ((a : Int), (l : Int), (m : Int), (i : Int), ()) (d.toList, (((r.toNat : Int), ()), ())) =
      L_slices_breakPatternsOrdered_uint64_5 ((a : Int), (l : Int), (m : Int), ((i + 1 : Nat) : Int), ()) ((breakStep a l m (r, d) i).2.toList, ((((breakStep a l m (r, d) i).1.toNat : Int), ()), ())) := by
  rw [Le_slices_breakPatternsOrdered_uint64_5]
  unfold ltree_slices_breakPatternsOrdered_uint64_5
  have e2 : ((l : Nat) : Int).tdiv 4 = ((l / 4 : Nat) : Int) := by rw [Int.tdiv_eq_ediv_of_nonneg (by omega)]; omega
  have e3 : IntKind.i64.wrap ((l / 4 : Nat) : Int) = ((l / 4 : Nat) : Int) := by rw [i64id] <;> omega
  have f2 : IntKind.i64.wrap (((l / 4 : Nat) : Int) * 2) = ((l / 4 * 2 : Nat) : Int) := by rw [i64id] <;> omega
  have g2 : IntKind.i64.wrap ((a : Int) + ((l / 4 * 2 : Nat) : Int)) = ((a + l / 4 * 2 : Nat) : Int) := by rw [i64id] <;> omega
  have g3 : IntKind.i64.wrap (((a + l / 4 * 2 : Nat) : Int) + 1) = ((a + l / 4 * 2 + 1 : Nat) : Int) := by rw [i64id] <;> omega
  rw [e2, e3, f2, g2, g3, cd_t (by omega), e_xorshift]
  simp only [Option.bind_some]
  have hm1 : IntKind.u64.wrap ((m : Int) - 1) = ((m - 1 : Nat) : Int) := by rw [u64id] <;> omega
  have hle : (xorNext r).toNat &&& (m - 1) ≤ m - 1 := Nat.and_le_right
  have hi1 : IntKind.i64.wrap ((i : Int) + 1) = ((i + 1 : Nat) : Int) := by rw [i64id] <;> omega
  have hu : IntKind.u64.wrap (((BitVec.ofInt 64 ((xorNext r).toNat : Int) &&& BitVec.ofInt 64 ((m - 1 : Nat) : Int)).toNat : Nat) : Int) = (((xorNext r).toNat &&& (m - 1) : Nat) : Int) := by
    rw [ofInt_u, ofInt_nat, BitVec.toNat_and, BitVec.toNat_ofNat, Nat.mod_eq_of_lt (by omega)]
    have e : (xorNext r).toBitVec.toNat &&& (m - 1) = (xorNext r).toNat &&& (m - 1) := rfl
    rw [e, u64id (by omega) (by omega)]
  have hw : IntKind.i64.wrap (((xorNext r).toNat &&& (m - 1) : Nat) : Int) = (((xorNext r).toNat &&& (m - 1) : Nat) : Int) := by rw [i64id] <;> omega
  rw [hm1, hu, hw, hi1]
  unfold breakStep
  dsimp only
  by_cases hc : (xorNext r).toNat &&& (m - 1) ≥ l
  · have h1 : IntKind.i64.wrap ((((xorNext r).toNat &&& (m - 1) : Nat) : Int) - (l : Int)) = (((xorNext r).toNat &&& (m - 1)) - l : Nat) := by rw [i64id] <;> omega
    have h2 : IntKind.i64.wrap ((a : Int) + ((((xorNext r).toNat &&& (m - 1)) - l : Nat) : Int)) = ((a + (((xorNext r).toNat &&& (m - 1)) - l) : Nat) : Int) := by rw [i64id] <;> omega
    rw [cd_t (by omega), h1, h2, if_pos hc]
    simp (disch := omega) only [Int.toNat_natCast, getL0, swpL0, List.length_set, Array.length_toList, cd_t]
  · have h2 : IntKind.i64.wrap ((a : Int) + (((xorNext r).toNat &&& (m - 1) : Nat) : Int)) = ((a + ((xorNext r).toNat &&& (m - 1)) : Nat) : Int) := by rw [i64id] <;> omega
    rw [cd_f (by omega), h2, if_neg hc]
    simp (disch := omega) only [Int.toNat_natCast, getL0, swpL0, List.length_set, Array.length_toList, cd_t]
theorem e_breakPatterns {a b : Nat} {d : Array Int} (hab : a < b) (hb : b ≤ d.size) (hd : d.size ≤ 255) :
    F_slices_breakPatternsOrdered_uint64 ((a : Int), (b : Int), ()) (d.toList, ()) = some ((), ((breakPatterns d a b).toList, ())) := by
  rw [Fe_slices_breakPatternsOrdered_uint64]
  unfold tree_slices_breakPatternsOrdered_uint64 breakPatterns
  dsimp only
  have e1 : IntKind.i64.wrap ((b : Int) - (a : Int)) = ((b - a : Nat) : Int) := by rw [i64id] <;> omega
  rw [e1]
  by_cases h8 : b - a ≥ 8
  · have e2 : ((b - a : Nat) : Int).tdiv 4 = (((b - a) / 4 : Nat) : Int) := by rw [Int.tdiv_eq_ediv_of_nonneg (by omega)]; omega
    have e3 : IntKind.i64.wrap (((b - a) / 4 : Nat) : Int) = (((b - a) / 4 : Nat) : Int) := by rw [i64id] <;> omega
    have f2 : IntKind.i64.wrap ((((b - a) / 4 : Nat) : Int) * 2) = (((b - a) / 4 * 2 : Nat) : Int) := by rw [i64id] <;> omega
    have g2 : IntKind.i64.wrap ((a : Int) + (((b - a) / 4 * 2 : Nat) : Int)) = ((a + (b - a) / 4 * 2 : Nat) : Int) := by rw [i64id] <;> omega
    have g3 : IntKind.i64.wrap (((a + (b - a) / 4 * 2 : Nat) : Int) - 1) = ((a + (b - a) / 4 * 2 - 1 : Nat) : Int) := by rw [i64id] <;> omega
    obtain ⟨p1, p2⟩ := bitsLen_pow (n := b - a) (by omega) (by omega)
    have p3 : 2 ^ bitsLen (b - a) ≤ 2 ^ 8 := Nat.pow_le_pow_right (by omega) (bitsLen_le (by omega))
    rw [cd_t (by omega), if_pos h8, e_nextPow (by omega)]
    simp only [Option.bind_some]
    have eu : IntKind.u64.wrap ((b - a : Nat) : Int) = (((UInt64.ofNat (b - a)).toNat : Nat) : Int) := by
      rw [UInt64.toNat_ofNat', Nat.mod_eq_of_lt (by omega)]
      rw [u64id] <;> omega
    have es : 1 <<< bitsLen (b - a) = 2 ^ bitsLen (b - a) := by rw [Nat.shiftLeft_eq, Nat.one_mul]
    rw [e2, e3, f2, g2, g3, eu, es]
    rw [e_break_round (by omega) (by omega) p2 (by omega) hd (Nat.le_refl _) (by omega) h8]
    generalize hst : breakStep a (b - a) (2 ^ bitsLen (b - a)) (UInt64.ofNat (b - a), d) (a + (b - a) / 4 * 2 - 1) = st1
    have s1 : st1.2.size = d.size := by rw [← hst, size_breakStep]
    rw [e_break_round (by omega) (by omega) p2 (by rw [s1]; omega) (by rw [s1]; exact hd) (by omega) (by omega) h8]
    generalize hst2 : breakStep a (b - a) (2 ^ bitsLen (b - a)) (st1.1, st1.2) (a + (b - a) / 4 * 2 - 1 + 1) = st2
    have s2 : st2.2.size = d.size := by rw [← hst2, size_breakStep, s1]
    rw [e_break_round (by omega) (by omega) p2 (by rw [s2]; omega) (by rw [s2]; exact hd) (by omega) (by omega) h8]
    rw [Le_slices_breakPatternsOrdered_uint64_5]
    unfold ltree_slices_breakPatternsOrdered_uint64_5
    have g4 : IntKind.i64.wrap (((a + (b - a) / 4 * 2 : Nat) : Int) + 1) = ((a + (b - a) / 4 * 2 + 1 : Nat) : Int) := by rw [i64id] <;> omega
    rw [e2, e3, f2, g2, g4, cd_f (by omega)]
    simp only [Option.bind_some]
  · rw [cd_f (by omega), if_neg h8]
end Go.Proofs.Ytgakbdikappdbaa.S2
