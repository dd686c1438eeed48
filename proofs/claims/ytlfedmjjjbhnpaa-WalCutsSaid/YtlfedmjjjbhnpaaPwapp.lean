/-
  law10's appended (under way).
-/
import Derived.Test.YtlfedmjjjbhnpaaPwzero
import Derived.Test.YtlfedmjjjbhnpaaGlaw10
set_option linter.unusedVariables false
set_option linter.unusedSimpArgs false
namespace Go.Proofs.Ytlfedmjjjbhnpaa.S2
open Go

theorem App_loop (l : List ByteArray) (hl : ∀ t ∈ l, t.size ≤ 281474976710656) (hlen : (l.length : Int) < 9223372036854775808) {S : List ByteArray} : ∀ (d k c : Nat) (next : Int) (held P : List W2), k + d = 8 → WInv c 0 0 next held S P → c + d ≤ 1000 → held.length ≤ k →
    ∃ (c' : Nat) (next' : Int) (held' P' : List W2), L_law10_appended_9 (l, (k : Int), ()) (held.map (·.2), P, held, (48, ()), S, (0, 8, 0, 0, next, ()), ()) = some ((), (held'.map (·.2), P', held', (48, ()), S, (0, 8, 0, 0, next', ()), ())) ∧
      WInv c' 0 0 next' held' S P' ∧ c' ≤ c + d
  | 0, k, c, next, held, P, hk, h, hc, hh => by
    refine ⟨c, next, held, P, ?_, h, by omega⟩
    rw [Le_law10_appended_9]
    unfold ltree_law10_appended_9
    by_cases h1 : (k : Int) < l.length
    · rw [cd_t h1, cd_f (by omega)]
    · rw [cd_f h1]
  | d + 1, k, c, next, held, P, hk, h, hc, hh => by
    by_cases h1 : (k : Int) < l.length
    · have ht := h.tail
      have hn := h.nc
      have hn1 := h.n1
      have hsz : (l.getD ((k : Int)).toNat ByteArray.empty).size ≤ 281474976710656 := hl _ (getD_mem (by omega))
      have happ := e_Append (fr := 0) h.l h.d hsz (by decide) (by decide) ⟨by omega, by omega⟩ ⟨by omega, by omega⟩ (mark := 0) (next := next)
      by_cases hm : mayA 48 8 next (lastI 0 held + 1) (tailI 0 held) held (l.getD ((k : Int)).toNat ByteArray.empty)
      · rw [if_pos hm] at happ
        have h8 : held.length ≠ 8 := by have := hm.2.1; omega
        obtain ⟨c', n', hd', P', e1, e2, e3⟩ := App_loop l hl hlen d (k + 1) (c + 1) (next + 1) _ _ (by omega) (h.append (t := l.getD ((k : Int)).toNat ByteArray.empty) (by omega) (sectI 0 8 (lastI 0 held + 1)) (frameB next (recB (lastI 0 held + 1) (tailI 0 held) (l.getD ((k : Int)).toNat ByteArray.empty)) 48) h8) (by omega) (by simp; omega)
        refine ⟨c', n', hd', P', ?_, e2, by omega⟩
        rw [← e1, Le_law10_appended_9]
        unfold ltree_law10_appended_9
        rw [cd_t h1, cd_t (by omega), cd_t (by omega), cd_t h1, happ]
        simp only [Option.bind_some, cond_true]
        rw [cd_t (by omega), cd_t h1, cd_t (by rw [List.length_map]; omega), i64id (by omega) (by omega)]
        simp
      · rw [if_neg hm] at happ
        obtain ⟨c', n', hd', P', e1, e2, e3⟩ := App_loop l hl hlen d (k + 1) c next held P (by omega) h (by omega) (by omega)
        refine ⟨c', n', hd', P', ?_, e2, by omega⟩
        rw [← e1, Le_law10_appended_9]
        unfold ltree_law10_appended_9
        rw [cd_t h1, cd_t (by omega), cd_t (by omega), cd_t h1, happ]
        simp only [Option.bind_some, cond_false]
        rw [i64id (by omega) (by omega)]
        rfl
    · refine ⟨c, next, held, P, ?_, h, by omega⟩
      rw [Le_law10_appended_9]
      unfold ltree_law10_appended_9
      rw [cd_f h1]

theorem WInv.sync {c : Nat} {base mark next : Int} {held : List W2} {S : List ByteArray} {P : List W2} (h : WInv c base mark next held S P) : WInv c base mark next held (flushS 48 S P) [] where
  l := h.l
  d := h.d.keep fun k => clampN (by decide)
  s8 := by unfold flushS; rw [keepS_len]; exact h.s8
  p := Nat.zero_le _
  n1 := h.n1
  nc := h.nc
  m0 := h.m0
  mc := h.mc
  hm := h.hm
  c1 := h.c1

theorem e_appended (l : List ByteArray) (hl : ∀ t ∈ l, t.size ≤ 281474976710656) (hlen : (l.length : Int) < 9223372036854775808) :
    ∃ (c : Nat) (next : Int) (held P : List W2), F_law10_appended (l, ()) () = some (.inr ((held.map (·.2), true, ()), ((48, ()), (0, 8, 0, 0, next, ()), flushS 48 zero8 P, [], held, ()))) ∧
      WInv c 0 0 next held zero8 P ∧ c ≤ 8 := by
  obtain ⟨c, next, held, P, e1, e2, e3⟩ := App_loop l hl hlen 8 0 0 1 [] [] rfl winv_zero8 (by decide) (by decide)
  refine ⟨c, next, held, P, ?_, e2, by omega⟩
  rw [Fe_law10_appended]
  unfold tree_law10_appended
  rw [e_New ⟨by decide, by decide, by decide, by decide⟩]
  simp only [Option.bind_some, Sum.elim_inr]
  rw [show (List.replicate (8 : Int).toNat (zerosB (48 : Int).toNat)) = zero8 from rfl, open_zero8]
  simp only [Option.bind_some, Sum.elim_inr]
  simp only [List.map_nil, Int.natCast_zero] at e1
  simp only [e1, e_Sync e2.d, Option.bind_some]
end Go.Proofs.Ytlfedmjjjbhnpaa.S2
