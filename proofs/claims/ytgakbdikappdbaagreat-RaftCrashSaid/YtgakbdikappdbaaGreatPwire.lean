/- Numbers as bytes, in plain words. -/
import Derived.Test.YtgakbdikappdbaaGreatGwire
import Derived.Test.YtgakbdikappdbaaGreatPbase
set_option linter.unusedVariables false
set_option linter.unusedSimpArgs false
namespace Go.Proofs.YtgakbdikappdbaaGreat.S2
open Go
def putL (n : Nat) : List UInt8 := if n < 128 then [UInt8.ofNat n] else UInt8.ofNat (n % 128 + 128) :: putL (n / 128)
termination_by n
decreasing_by omega
theorem putL_small {n : Nat} (h : n < 128) : putL n = [UInt8.ofNat n] := by rw [putL, if_pos h]
theorem putL_big {n : Nat} (h : ¬ n < 128) : putL n = UInt8.ofNat (n % 128 + 128) :: putL (n / 128) := by rw [putL, if_neg h]
def bytesI (l : List Int) : List UInt8 := l.map fun n => UInt8.ofNat n.toNat
theorem or128 : ∀ b : Fin 256, (BitVec.ofNat 8 b.val ||| BitVec.ofNat 8 128).toNat = b.val % 128 + 128 := by decide +kernel
theorem or128_int {n : Int} (h : 0 ≤ n) : IntKind.u8.wrap (((BitVec.ofInt 8 (IntKind.u8.wrap n) ||| BitVec.ofInt 8 128).toNat : Nat) : Int) = n % 128 + 128 := by
  have e : IntKind.u8.wrap n = ((n.toNat % 256 : Nat) : Int) := by rw [u8w]; omega
  have e2 : (128 : Int) = ((128 : Nat) : Int) := rfl
  rw [e, show BitVec.ofInt 8 (128 : Int) = BitVec.ofNat 8 128 from rfl, BitVec.ofInt_natCast]
  have := or128 ⟨n.toNat % 256, Nat.mod_lt _ (by decide)⟩
  dsimp only at this
  rw [this, u8w]
  omega
theorem put_loop : ∀ (k : Nat) (n : Int) (l : List Int), 0 ≤ n → n < ((128 ^ (k + 1) : Nat) : Int) → l.length + k ≤ 1000 →
    ∃ (m : Int) (l' : List Int), L_wire_put_1 (n, ()) (l, ()) = some ((m, ()), (l', ())) ∧ 0 ≤ m ∧ m < 128 ∧ l'.length ≤ l.length + k ∧ bytesI (l' ++ [m]) = bytesI l ++ putL n.toNat
  | 0, n, l, h0, h1, hl => by
    refine ⟨n, l, ?_, h0, by simpa using h1, by omega, ?_⟩
    · rw [Le_wire_put_1]
      unfold ltree_wire_put_1
      rw [cd_f (by simp at h1; omega)]
    · rw [putL_small (by simp at h1; omega)]
      simp [bytesI]
  | k + 1, n, l, h0, h1, hl => by
    by_cases hn : n ≥ 128
    · have h2 : n / 128 < ((128 ^ (k + 1) : Nat) : Int) := by
        rw [Nat.pow_succ] at h1
        omega
      obtain ⟨m, l', e, g0, g1, g2, g3⟩ := put_loop k (n / 128) (l ++ [n % 128 + 128]) (by omega) h2 (by simp; omega)
      refine ⟨m, l', ?_, g0, g1, by simp at g2; omega, ?_⟩
      · rw [Le_wire_put_1]
        unfold ltree_wire_put_1
        rw [cd_t hn, cd_t (by simp; omega), or128_int h0, List.nil_append, Int.fdiv_eq_ediv_of_nonneg _ (by decide)]
        exact e
      · rw [g3, putL_big (n := n.toNat) (by omega)]
        simp only [bytesI, List.map_append, List.map_cons, List.map_nil, List.append_assoc, List.singleton_append]
        rw [show (n % 128 + 128).toNat = n.toNat % 128 + 128 by omega, show (n / 128).toNat = n.toNat / 128 by omega]
    · refine ⟨n, l, ?_, h0, by omega, by omega, ?_⟩
      · rw [Le_wire_put_1]
        unfold ltree_wire_put_1
        rw [cd_f (by omega)]
      · rw [putL_small (by omega)]
        simp [bytesI]
def putB (n : Int) : ByteArray := ⟨(putL n.toNat).toArray⟩
theorem bs_put (n : Int) : bs (putB n) = putL n.toNat := rfl
theorem e_PutUint {n : Int} (h0 : 0 ≤ n) (h1 : n < 18446744073709551616) : F_wire_PutUint (n, ()) () = some (putB n, ()) := by
  rw [Fe_wire_PutUint]
  unfold tree_wire_PutUint
  rw [Fe_wire_put]
  unfold tree_wire_put
  obtain ⟨m, l', e, g0, g1, g2, g3⟩ := put_loop 9 n [] h0 (by have : ((128 ^ (9 + 1) : Nat) : Int) = 1180591620717411303424 := (by decide); omega) (by simp)
  rw [e]
  simp only [Option.bind_some]
  rw [cd_t (by simp at g2; omega)]
  simp only [Option.bind_some, Option.some.injEq, Prod.mk.injEq, and_true]
  apply bs_inj
  rw [bs_nums, bs_put, List.nil_append, u8w, show m % 256 = m by omega]
  exact g3
theorem putL_len : ∀ (k n : Nat), n < 128 ^ (k + 1) → (putL n).length ≤ k + 1
  | 0, n, h => by rw [putL_small (by simpa using h)]; simp
  | k + 1, n, h => by
    by_cases hn : n < 128
    · rw [putL_small hn]; simp
    · rw [putL_big hn]
      have := putL_len k (n / 128) (by rw [Nat.pow_succ] at h; omega)
      simp; omega
theorem putL_len10 {n : Nat} (h : n < 18446744073709551616) : (putL n).length ≤ 10 := putL_len 9 n (by have : (128 : Nat) ^ (9 + 1) = 1180591620717411303424 := (by decide); omega)
theorem putB_size {n : Int} (h0 : 0 ≤ n) (h1 : n < 18446744073709551616) : (putB n).size ≤ 10 := putL_len10 (n := n.toNat) (by omega)
end Go.Proofs.YtgakbdikappdbaaGreat.S2
