/-
  wal.Open in plain words (under way).
-/
import Derived.Test.YtlfedmjjjbhnpaaPwal
set_option linter.unusedVariables false
set_option linter.unusedSimpArgs false
namespace Go.Proofs.Ytlfedmjjjbhnpaa.S2
open Go

variable {fr many base mark next size : Int} {held : List W2} {S : List ByteArray} {P : List W2}

/-- The records that stand one behind the other. -/
def standL (fr many base mark : Int) (S : List ByteArray) (P : List W2) : Nat → List W2 → List W2
  | 0, held => held
  | d + 1, held => if (standS fr many S P (lastI base held + 1) (tailI mark held)).2.2 = true then
      standL fr many base mark S P d (held ++ [((standS fr many S P (lastI base held + 1) (tailI mark held)).1, (standS fr many S P (lastI base held + 1) (tailI mark held)).2.1)]) else held

theorem Open_loop (hP : P.length ≤ 1000000) (hf : 0 ≤ fr) (hf1 : fr ≤ 1000000) : ∀ (d : Nat) (held : List W2), LInv many base held → (held.length : Int) + d = many →
    L_wal_Open_16 (many, ()) ((size, ()), S, P, held, (fr, many, base, mark, next, ()), ()) = some ((), ((size, ()), S, P, standL fr many base mark S P d held, (fr, many, base, mark, next, ()), ()))
  | 0, held, h, hk => by
    rw [Le_wal_Open_16]
    unfold ltree_wal_Open_16
    rw [cd_f (by omega)]
    rfl
  | d + 1, held, h, hk => by
    have hl := h.last; have h128 := h.many128
    rw [Le_wal_Open_16]
    unfold ltree_wal_Open_16
    rw [cd_t (by omega)]
    simp only [e_Last h, e_tail h, Option.bind_some]
    rw [u64id (n := lastI base held + 1) (by omega) (by omega)]
    simp only [e_stands h hP (n := lastI base held + 1) (by omega) hf hf1, Option.bind_some]
    unfold standL
    by_cases h1 : (standS fr many S P (lastI base held + 1) (tailI mark held)).2.2 = true
    · rw [if_pos h1, h1]
      simp only [Bool.not_true, cond_false]
      rw [cd_t (by omega), List.nil_append]
      exact Open_loop hP hf hf1 d _ ⟨h.many2, h.many128, h.base0, h.base62, by simp; omega⟩ (by simp; omega)
    · rw [if_neg h1]
      simp only [Bool.not_eq_true] at h1
      rw [h1]
      rfl

/-- The greatest number that the sectors hold. -/
def greatS (fr : Int) (S : List ByteArray) (P : List W2) : Nat → Nat → Int → Int
  | 0, _, g => g
  | d + 1, k, g => greatS fr S P d (k + 1) (if (unfS (readS S P (fr + k)).1).2.2 = true then (if (unfS (readS S P (fr + k)).1).1 > g then (unfS (readS S P (fr + k)).1).1 else g) else g)

theorem Scan_loop {L : Int × Int × Int × Int × Int × Unit} (hP : P.length ≤ 1000000) (hf : 0 ≤ fr) (hf1 : fr ≤ 1000000) (hm : many ≤ 128) : ∀ (d k : Nat) (g : Int), (k : Int) + d = many →
    L_wal_Open_6 (fr, many, g, many, (k : Int), ()) ((size, ()), S, P, L, ()) = some ((many, greatS fr S P d k g, ()), ((size, ()), S, P, L, ()))
  | 0, k, g, hk => by
    obtain ⟨a, b, c, e, f, ⟨⟩⟩ := L
    rw [Le_wal_Open_6]
    unfold ltree_wal_Open_6
    rw [cd_f (by omega)]
    rfl
  | d + 1, k, g, hk => by
    obtain ⟨a, b, c, e, f, ⟨⟩⟩ := L
    rw [Le_wal_Open_6]
    unfold ltree_wal_Open_6
    rw [cd_t (by omega), i64id (n := fr + k) (by omega) (by omega), i64id (n := (k : Int) + 1) (by omega) (by omega)]
    simp only [e_Read hP, e_Unframe, Option.bind_some]
    unfold greatS
    by_cases h1 : (unfS (readS S P (fr + k)).1).2.2 = true
    · rw [c_t h1, if_pos h1]
      exact Scan_loop hP hf hf1 hm d (k + 1) _ (by omega)
    · rw [c_f (by simpa using h1), if_neg h1]
      exact Scan_loop hP hf hf1 hm d (k + 1) _ (by omega)

/-- May a log be opened? -/
def okO (fr many base : Int) (n : Nat) : Prop := 2 ≤ many ∧ many ≤ 128 ∧ 0 ≤ fr ∧ fr ≤ n - many ∧ base ≤ 4611686018427387904

instance (fr many base : Int) (n : Nat) : Decidable (okO fr many base n) := by unfold okO; exact inferInstance

/-- The next number behind the greatest one. -/
def nextS (g : Int) : Int := if g < 18446744073709551615 then g + 1 else g

theorem e_wOpen (hP : P.length ≤ 1000000) (hS : S.length ≤ 1000000) (hb : 0 ≤ base) (hm1 : many < 9223372036854775808) (hg : 0 ≤ greatS fr S P many.toNat 0 0) : F_wal_Open (fr, many, base, mark, ()) ((size, ()), S, P, ()) =
    if okO fr many base S.length then some (.inr ((), ((size, ()), S, P, (fr, many, base, mark, nextS (greatS fr S P many.toNat 0 0), ()), standL fr many base mark S P many.toNat [], ())))
    else some (.inl ((), ((size, ()), S, P, ()))) := by
  rw [Fe_wal_Open]
  unfold tree_wal_Open
  by_cases h1 : many < 2
  · rw [cd_t h1, if_neg (fun h => by have := h.1; omega)]
  rw [cd_f h1]
  by_cases h2 : many > 128
  · rw [cd_t h2, if_neg (fun h => by have := h.2.1; omega)]
  rw [cd_f h2]
  by_cases h3 : fr < 0
  · rw [cd_t h3, if_neg (fun h => by have := h.2.2.1; omega)]
  rw [cd_f h3]
  simp only [e_Sectors, Option.bind_some]
  rw [i64id (n := (S.length : Int) - many) (by omega) (by omega)]
  by_cases h4 : fr > S.length - many
  · rw [cd_t h4, if_neg (fun h => by have := h.2.2.2.1; omega)]
  rw [cd_f h4]
  by_cases h5 : base > 4611686018427387904
  · rw [cd_t h5, if_neg (fun h => by have := h.2.2.2.2; omega)]
  rw [cd_f h5, if_pos ⟨by omega, by omega, by omega, by omega, by omega⟩]
  have hsc := Scan_loop (size := size) (S := S) (P := P) (fr := fr) (many := many) (L := (fr, many, base, mark, 0, ())) hP (by omega) (by omega) (by omega) many.toNat 0 0 (by omega)
  simp only [Int.natCast_zero] at hsc
  simp only [hsc, Option.bind_some]
  have hop : ∀ nx : Int, _ := fun nx => Open_loop (size := size) (S := S) (P := P) (fr := fr) (many := many) (base := base) (mark := mark) (next := nx) hP (by omega) (by omega) many.toNat [] ⟨by omega, by omega, hb, by omega, by simp; omega⟩ (by simp; omega)
  unfold nextS
  by_cases h6 : greatS fr S P many.toNat 0 0 < 18446744073709551615
  · rw [cd_t h6, if_pos h6, u64id (by omega) (by omega)]
    simp only [hop, Option.bind_some]
  · rw [cd_f h6, if_neg h6]
    simp only [hop, Option.bind_some]

theorem great_lt (fr : Int) (S : List ByteArray) (P : List W2) : ∀ (d k : Nat) (g : Int), 0 ≤ g → g < 18446744073709551616 → 0 ≤ greatS fr S P d k g ∧ greatS fr S P d k g < 18446744073709551616
  | 0, k, g, h0, h1 => ⟨h0, h1⟩
  | d + 1, k, g, h0, h1 => by
    unfold greatS
    have := unfS_lt (readS S P (fr + k)).1
    split
    · split
      · exact great_lt fr S P d (k + 1) _ this.1 this.2
      · exact great_lt fr S P d (k + 1) _ h0 h1
    · exact great_lt fr S P d (k + 1) _ h0 h1
end Go.Proofs.Ytlfedmjjjbhnpaa.S2
