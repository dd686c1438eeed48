/-
  wal in plain words (under way).
-/
import Derived.Test.YtlfedmjjjbhnpaaGwal
import Derived.Test.YtlfedmjjjbhnpaaPwire
import Derived.Test.YtlfedmjjjbhnpaaPslot
set_option linter.unusedVariables false
set_option linter.unusedSimpArgs false
namespace Go.Proofs.Ytlfedmjjjbhnpaa.S2
open Go

/-- What a log's own numbers keep. -/
structure LInv (many base : Int) (held : List W2) : Prop where
  many2 : 2 ≤ many
  many128 : many ≤ 128
  base0 : 0 ≤ base
  base62 : base ≤ 9223372036854775808
  len : (held.length : Int) ≤ many

variable {fr many base mark next size : Int} {held : List W2} {S : List ByteArray} {P : List W2}

/-- The number of the last record. -/
def lastI (base : Int) (held : List W2) : Int := base + held.length

theorem LInv.last (h : LInv many base held) : 0 ≤ lastI base held ∧ lastI base held ≤ 9223372036854775808 + 128 := by
  have := h.many128; have := h.base0; have := h.base62; have := h.len
  unfold lastI; omega

theorem e_Last (h : LInv many base held) : F_wal_Log_Last () ((fr, many, base, mark, next, ()), (size, ()), held, S, P, ()) = some (lastI base held, ()) := by
  have := h.many128; have := h.base0; have := h.base62; have := h.len
  rw [Fe_wal_Log_Last]
  simp only [tree_wal_Log_Last]
  rw [u64id (n := (held.length : Int)) (by omega) (by omega), u64id (by omega) (by omega)]
  rfl

theorem e_Base : F_wal_Log_Base () ((fr, many, base, mark, next, ()), (size, ()), held, S, P, ()) = some (base, ()) := rfl

theorem e_Mark : F_wal_Log_Mark () ((fr, many, base, mark, next, ()), (size, ()), held, S, P, ()) = some (mark, ()) := rfl

/-- The mark of the last record, or of the base. -/
def tailI (mark : Int) (held : List W2) : Int := match held.getLast? with | some p => p.1 | none => mark

theorem tail_get (mark : Int) {held : List W2} (h : 0 < held.length) : (held.getD (held.length - 1) (0, ByteArray.empty)).1 = tailI mark held := by
  unfold tailI
  rw [List.getLast?_eq_getElem?, List.getD_eq_getElem?_getD, List.getElem?_eq_getElem (by omega)]
  rfl

theorem e_tail (h : LInv many base held) : F_wal_Log_tail () ((fr, many, base, mark, next, ()), (size, ()), held, S, P, ()) = some (tailI mark held, ()) := by
  have := h.many128; have := h.len
  rw [Fe_wal_Log_tail]
  simp only [tree_wal_Log_tail]
  by_cases h0 : 0 < held.length
  · rw [cd_t (by omega), i64id (by omega) (by omega), cd_t (by omega), cd_t (by omega), show (0 + ((held.length : Int) - 1).toNat) = held.length - 1 by omega, tail_get mark h0]
    rfl
  · rw [cd_f (by omega)]
    have : held = [] := List.eq_nil_of_length_eq_zero (by omega)
    subst this
    rfl

/-- The sector of a record. -/
def sectI (fr many n : Int) : Int := fr + n % many

theorem e_sector (h : LInv many base held) {n : Int} (h0 : 0 ≤ n) (hf : 0 ≤ fr) (hf1 : fr ≤ 1000000) : F_wal_Log_sector (n, ()) ((fr, many, base, mark, next, ()), (size, ()), held, S, P, ()) = some (sectI fr many n, ()) := by
  have := h.many128; have := h.many2
  have h1 : 0 ≤ n % many := Int.emod_nonneg _ (by omega)
  have h2 : n % many < many := Int.emod_lt_of_pos _ (by omega)
  rw [Fe_wal_Log_sector]
  simp only [tree_wal_Log_sector]
  rw [u64id (n := many) (by omega) (by omega), c_t (by simp; omega), Int.tmod_eq_emod_of_nonneg h0, i64id (n := n % many) (by omega) (by omega), i64id (by omega) (by omega)]
  rfl

/-- A record's text. -/
def textI (base : Int) (held : List W2) (n : Int) : ByteArray × Bool :=
  if base < n ∧ n ≤ lastI base held then ((held.getD (n - base - 1).toNat (0, ByteArray.empty)).2, true) else (ByteArray.empty, false)

theorem e_logText (h : LInv many base held) {n : Int} (h0 : 0 ≤ n) (h1 : n < 18446744073709551616) : F_wal_Log_Text (n, ()) ((fr, many, base, mark, next, ()), (size, ()), held, S, P, ()) = some (((textI base held n).1, (textI base held n).2, ()), ()) := by
  have := h.base0; have hl := h.last
  rw [Fe_wal_Log_Text]
  simp only [tree_wal_Log_Text, e_Last h, Option.bind_some]
  unfold textI
  by_cases hb : n ≤ base
  · rw [cd_t hb, if_neg (by omega)]; rfl
  · rw [cd_f hb]
    by_cases hn : n > lastI base held
    · rw [cd_t hn, if_neg (by omega)]; rfl
    · have hh : n - base ≤ held.length := by unfold lastI at hn; omega
      rw [cd_f hn, if_pos (by omega), u64id (n := n - base) (by omega) (by omega), u64id (by omega) (by omega), cd_t (by omega), cd_t (by omega), show 0 + (n - base - 1).toNat = (n - base - 1).toNat by omega]
      rfl

theorem e_Cut (h : LInv many base held) {n : Int} (h0 : 0 ≤ n) (h1 : n < 18446744073709551616) : F_wal_Log_Cut (n, ()) ((fr, many, base, mark, next, ()), (size, ()), held, S, P, ()) =
    some (if n < base ∨ lastI base held < n then (false, ((fr, many, base, mark, next, ()), (size, ()), (), S, P, held, ())) else (true, ((fr, many, base, mark, next, ()), (size, ()), (), S, P, held.take (n - base).toNat, ()))) := by
  have := h.base0; have hl := h.last
  rw [Fe_wal_Log_Cut]
  simp only [tree_wal_Log_Cut, e_Last h, Option.bind_some]
  by_cases hb : n < base
  · rw [cd_t hb, if_pos (.inl hb)]
  · rw [cd_f hb]
    by_cases hn : n > lastI base held
    · rw [cd_t hn, if_pos (.inr hn)]
    · have hh : n - base ≤ held.length := by unfold lastI at hn; omega
      rw [cd_f hn, if_neg (by omega), u64id (n := n - base) (by omega) (by omega)]
      simp only [cond_decide]
      rw [if_pos (by omega), if_pos (by omega)]
      simp

theorem e_Drop (h : LInv many base held) {n : Int} (h0 : 0 ≤ n) (h1 : n < 18446744073709551616) : F_wal_Log_Drop (n, ()) ((fr, many, base, mark, next, ()), (size, ()), held, S, P, ()) =
    some (if n < base ∨ lastI base held < n then (false, ((fr, many, base, mark, next, ()), (size, ()), (), S, P, held, ())) else
      (true, ((fr, many, n, tailI mark (held.take (n - base).toNat), next, ()), (size, ()), (), S, P, held.drop (n - base).toNat, ()))) := by
  have := h.base0; have hl := h.last
  rw [Fe_wal_Log_Drop]
  simp only [tree_wal_Log_Drop, e_Last h, Option.bind_some]
  by_cases hb : n < base
  · rw [cd_t hb, if_pos (.inl hb)]
  · rw [cd_f hb]
    by_cases hn : n > lastI base held
    · rw [cd_t hn, if_pos (.inr hn)]
    · have hh : n - base ≤ held.length := by unfold lastI at hn; omega
      rw [cd_f hn, if_neg (by omega)]
      by_cases hnb : n > base
      · have ht := tail_get mark (held := held.take (n - base).toNat) (by rw [List.length_take]; omega)
        rw [List.length_take, Nat.min_eq_left (by omega), List.getD_eq_getElem?_getD, List.getElem?_take, if_pos (by omega), ← List.getD_eq_getElem?_getD] at ht
        rw [cd_t hnb, u64id (n := n - base) (by omega) (by omega), u64id (by omega) (by omega), cd_t (by omega), cd_t (by omega), cd_t (by omega), cd_t (by omega), show 0 + (n - base - 1).toNat = (n - base).toNat - 1 by omega, ht]
        rw [show 0 + (n - base).toNat = (n - base).toNat by omega, show (held.drop (n - base).toNat).take (held.length - (n - base).toNat) = held.drop (n - base).toNat from List.take_of_length_le (by rw [List.length_drop]; omega)]
      · obtain rfl : n = base := by omega
        rw [cd_f hnb]
        simp [tailI]

/-- The record that stands on the disk behind one of a mark. -/
def standS (fr many : Int) (S : List ByteArray) (P : List W2) (n ahead : Int) : Int × ByteArray × Bool :=
  let u := unfS (readS S P (sectI fr many n)).1
  let a := takS u.2.1
  let b := takS a.2.1
  if u.2.2 = true ∧ a.2.2 = true ∧ b.2.2 = true ∧ a.1 = n ∧ b.1 = ahead then (u.1, b.2.1, true) else (0, ByteArray.empty, false)

theorem e_stands (h : LInv many base held) (hP : P.length ≤ 1000000) {n ahead : Int} (h0 : 0 ≤ n) (hf : 0 ≤ fr) (hf1 : fr ≤ 1000000) : F_wal_Log_stands (n, ahead, ()) ((fr, many, base, mark, next, ()), (size, ()), held, S, P, ()) =
    some ((((standS fr many S P n ahead).1, (standS fr many S P n ahead).2.1, ()), (standS fr many S P n ahead).2.2, ()), ()) := by
  rw [Fe_wal_Log_stands]
  simp only [tree_wal_Log_stands, e_sector h h0 hf hf1, e_Read hP, e_Unframe, e_TakeUint, Option.bind_some, cond_nei]
  unfold standS
  generalize unfS (readS S P (sectI fr many n)).1 = u
  simp only
  generalize takS u.2.1 = a
  generalize takS a.2.1 = b
  by_cases h1 : u.2.2 = true
  · by_cases h2 : a.2.2 = true
    · by_cases h3 : b.2.2 = true
      · by_cases h4 : a.1 = n
        · by_cases h5 : b.1 = ahead
          · simp [h1, h2, h3, h4, h5]
          · simp [h1, h2, h3, h4, h5]
        · simp [h1, h2, h3, h4]
      · simp [h1, h2, h3]
    · simp [h1, h2]
  · simp [h1]

theorem e_Sync (hd : DInv size S P) : F_wal_Log_Sync () ((fr, many, base, mark, next, ()), (size, ()), held, S, P, ()) = some ((), ((fr, many, base, mark, next, ()), (size, ()), held, flushS size S P, (), [], ())) := by
  rw [Fe_wal_Log_Sync]
  simp only [tree_wal_Log_Sync, e_Flush hd, Option.bind_some]
  rfl

/-- A record's bytes within its frame. -/
def recB (n ahead : Int) (t : ByteArray) : ByteArray := putB n ++ putB ahead ++ t

/-- May a text be appended? -/
def mayA (size many next n ahead : Int) (held : List W2) (t : ByteArray) : Prop := okF next (recB n ahead t) size ∧ (held.length : Int) ≠ many ∧ next ≠ 18446744073709551615

instance (size many next n ahead : Int) (held : List W2) (t : ByteArray) : Decidable (mayA size many next n ahead held t) := by unfold mayA okF; exact inferInstance

theorem e_Append (h : LInv many base held) (hd : DInv size S P) {t : ByteArray} (ht : t.size ≤ 281474976710656) (hf : 0 ≤ fr) (hf1 : fr ≤ 1000000) (hn : 0 ≤ next ∧ next < 18446744073709551616) (hm : 0 ≤ tailI mark held ∧ tailI mark held < 18446744073709551616) :
    F_wal_Log_Append (t, ()) ((fr, many, base, mark, next, ()), (size, ()), held, S, P, ()) =
    some (if mayA size many next (lastI base held + 1) (tailI mark held) held t then
      (true, ((fr, many, base, mark, next + 1, ()), (size, ()), (), S, (), held ++ [(next, t)], wrS size S P (sectI fr many (lastI base held + 1)) (frameB next (recB (lastI base held + 1) (tailI mark held) t) size), ()))
      else (false, ((fr, many, base, mark, next, ()), (size, ()), (), S, (), held, P, ()))) := by
  have hl := h.last; have hh := h.len; have h128 := h.many128
  have s1 := putB_size (n := lastI base held + 1) (by omega) (by omega)
  have s2 := putB_size hm.1 hm.2
  rw [Fe_wal_Log_Append]
  simp only [tree_wal_Log_Append, e_Last h, e_tail h, e_Size, Option.bind_some]
  rw [u64id (n := lastI base held + 1) (by omega) (by omega)]
  simp only [e_PutUint (n := lastI base held + 1) (by omega) (by omega), e_PutUint hm.1 hm.2, Option.bind_some]
  rw [cd_t (by omega), cd_t (by rw [ByteArray.size_append]; omega)]
  simp only [e_Frame hn.1 hn.2, e_sector h (n := lastI base held + 1) (by omega) hf hf1, e_Write hd, Option.bind_some]
  unfold frameS
  rw [show putB (lastI base held + 1) ++ putB (tailI mark held) ++ t = recB (lastI base held + 1) (tailI mark held) t from rfl]
  by_cases h1 : okF next (recB (lastI base held + 1) (tailI mark held) t) size
  · rw [if_pos h1]
    simp only [Bool.not_true, cond_false, cond_eqi]
    by_cases h2 : (held.length : Int) = many
    · rw [if_pos h2, if_neg (show ¬ mayA size many next (lastI base held + 1) (tailI mark held) held t from fun h => h.2.1 h2)]
    · rw [if_neg h2]
      by_cases h3 : next = 18446744073709551615
      · rw [if_pos h3, if_neg (show ¬ mayA size many next (lastI base held + 1) (tailI mark held) held t from fun h => h.2.2 h3)]
      · rw [if_neg h3, if_pos (show mayA size many next (lastI base held + 1) (tailI mark held) held t from ⟨h1, h2, h3⟩), cd_t (by omega), u64id (n := next + 1) (by omega) (by omega)]
        rfl
  · rw [if_neg h1, if_neg (show ¬ mayA size many next (lastI base held + 1) (tailI mark held) held t from fun h => h1 h.1)]
    rfl
end Go.Proofs.Ytlfedmjjjbhnpaa.S2
