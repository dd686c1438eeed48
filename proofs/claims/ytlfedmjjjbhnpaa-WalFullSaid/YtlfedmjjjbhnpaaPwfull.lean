/-
  WalFull in plain words.
-/
import Derived.Test.YtlfedmjjjbhnpaaPwrun
import Derived.Test.YtlfedmjjjbhnpaaPwfixed
import Derived.Test.YtlfedmjjjbhnpaaGLWalFull
set_option linter.unusedVariables false
set_option linter.unusedSimpArgs false
namespace Go.Proofs.Ytlfedmjjjbhnpaa.S2
open Go

/-- What a small append makes of a log. -/
theorem WInv.e_small {c : Nat} {base mark next : Int} {held : List W2} {S : List ByteArray} {P : List W2} (h : WInv c base mark next held S P) (hc : c + 1 ≤ 1000) {t : ByteArray} (ht : t.size ≤ 10) :
    (held.length ≠ 8 ∧ ∃ P', WInv (c + 1) base mark (next + 1) (held ++ [(next, t)]) S P' ∧ F_wal_Log_Append (t, ()) ((0, 8, base, mark, next, ()), (48, ()), held, S, P, ()) = some (true, ((0, 8, base, mark, next + 1, ()), (48, ()), (), S, (), held ++ [(next, t)], P', ()))) ∨
    (held.length = 8 ∧ F_wal_Log_Append (t, ()) ((0, 8, base, mark, next, ()), (48, ()), held, S, P, ()) = some (false, ((0, 8, base, mark, next, ()), (48, ()), (), S, (), held, P, ()))) := by
  have hn := h.nc
  have hn1 := h.n1
  have htl := h.tail
  have hc1 := h.c1
  have e := e_Append (fr := 0) (many := 8) (size := 48) (mark := mark) (next := next) h.l h.d (show t.size ≤ 281474976710656 by omega) (by decide) (by decide) ⟨by omega, by omega⟩ ⟨by omega, by omega⟩
  have hm := h.may ht
  by_cases h8 : held.length = 8
  · rw [if_neg (fun hx => hm.1 hx h8)] at e; exact .inr ⟨h8, e⟩
  · rw [if_pos (hm.2 h8)] at e; exact .inl ⟨h8, _, h.append hc _ _ h8, e⟩

theorem Full_loop5 {x1 : Int} : ∀ (d c : Nat) (next : Int) (held P : List W2) {S : List ByteArray} , held.length + d = 8 → WInv c 0 0 next held S P → c + d ≤ 900 →
    ∃ (c' : Nat) (next' : Int) (held' P' : List W2), L_law10_WalFull_5w1 (x1, (held.length : Int), ()) (P, held, (48, ()), (0, 8, 0, 0, next, ()), S, ()) = some (.inr ((x1, ()), (P', held', (48, ()), (0, 8, 0, 0, next', ()), S, ()))) ∧
      WInv c' 0 0 next' held' S P' ∧ c' ≤ c + d ∧ held'.length = 8
  | 0, c, next, held, P, S, hk, h, hc => by
    refine ⟨c, next, held, P, ?_, h, by omega, by omega⟩
    rw [Le_law10_WalFull_5w1]
    unfold ltree_law10_WalFull_5w1
    rw [cd_f (by omega)]
  | d + 1, c, next, held, P, S, hk, h, hc => by
    rcases h.e_small (t := ByteArray.mk #[120]) (by omega) (by decide) with ⟨h8, P', h', happ⟩ | ⟨h8, _⟩
    · obtain ⟨c', n', hd', P'', e1, e2, e3, e4⟩ := Full_loop5 (x1 := x1) d (c + 1) (next + 1) _ P' (by rw [List.length_append, List.length_singleton]; omega) h' (by omega)
      refine ⟨c', n', hd', P'', ?_, e2, by omega, e4⟩
      rw [← e1, Le_law10_WalFull_5w1]
      unfold ltree_law10_WalFull_5w1
      rw [cd_t (by omega), happ]
      simp only [Option.bind_some, Bool.not_true, cond_false]
      rw [i64id (by omega) (by omega), List.length_append, List.length_singleton, show ((held.length : Int) + 1) = ((held.length + 1 : Nat) : Int) by omega]
    · omega

theorem Full_loop12 {x1 r base mark : Int} (hr : x1.tmod 9 = r) (h9 : r ≤ 8) {S : List ByteArray} : ∀ (d k c : Nat) (next : Int) (held P : List W2), (k : Int) + d = r → held.length + d = 8 → WInv c base mark next held S P → c + d ≤ 900 →
    ∃ (c' : Nat) (next' : Int) (held' P' : List W2), L_law10_WalFull_12 (x1, (k : Int), ()) (P, held, (48, ()), (0, 8, base, mark, next, ()), S, ()) = some (.inr ((x1, ()), (P', held', (48, ()), (0, 8, base, mark, next', ()), S, ()))) ∧
      WInv c' base mark next' held' S P' ∧ c' ≤ c + d ∧ held'.length = 8
  | 0, k, c, next, held, P, hk, hh, h, hc => by
    refine ⟨c, next, held, P, ?_, h, by omega, by omega⟩
    rw [Le_law10_WalFull_12]
    unfold ltree_law10_WalFull_12
    rw [cd_f (by omega)]
  | d + 1, k, c, next, held, P, hk, hh, h, hc => by
    rcases h.e_small (t := ByteArray.mk #[121]) (by omega) (by decide) with ⟨h8, P', h', happ⟩ | ⟨h8, _⟩
    · obtain ⟨c', n', hd', P'', e1, e2, e3, e4⟩ := Full_loop12 hr h9 d (k + 1) (c + 1) (next + 1) _ P' (by omega) (by rw [List.length_append, List.length_singleton]; omega) h' (by omega)
      refine ⟨c', n', hd', P'', ?_, e2, by omega, e4⟩
      rw [← e1, Le_law10_WalFull_12]
      unfold ltree_law10_WalFull_12
      rw [cd_t (by omega), happ]
      simp only [Option.bind_some, Bool.not_true, cond_false]
      rw [u64id (by omega) (by omega), show ((k : Int) + 1) = ((k + 1 : Nat) : Int) by omega]
    · omega

theorem p_WalFull {l : List ByteArray} {x : Int} (hl : ∀ t ∈ l, t.size ≤ 281474976710656) (hlen : (l.length : Int) < 9223372036854775808) (h0 : 0 ≤ x) (h1 : x < 18446744073709551616) : F_law10_WalFull (l, x, ()) () = some (true, ()) := by
  obtain ⟨c, next, held, P, D, ea, hp, hc⟩ := e_appendedP l hl hlen
  have hw := hp.log.w.sync
  have hlh := hw.l.len
  rw [Fe_law10_WalFull]
  unfold tree_law10_WalFull
  rw [ea]
  simp only [Option.bind_some, Sum.elim_inr]
  rw [e_fixed10]
  simp only [Option.bind_some, Bool.not_true, cond_false]
  obtain ⟨c1, n1, held1, P1, e1, w1, b1, l1⟩ := Full_loop5 (x1 := x) (8 - held.length) c next held [] (by omega) hw (by omega)
  rw [List.length_map, e1]
  simp only [Option.bind_some, Sum.elim_inr]
  have hlast : lastI 0 held1 = 8 := by unfold lastI; omega
  rcases w1.e_small (t := ByteArray.mk #[120]) (by omega) (by decide) with ⟨h8, _⟩ | ⟨_, e2⟩
  · omega
  rw [e2]
  simp only [Option.bind_some, cond_false]
  rw [e_Last w1.l, hlast]
  simp only [Option.bind_some, bne_self_eq_false, cond_false]
  have hm9 : x.tmod 9 = x % 9 := Int.tmod_eq_emod_of_nonneg h0
  have hr0 : 0 ≤ x % 9 ∧ x % 9 ≤ 8 := by omega
  have e3 := e_Drop (fr := 0) (mark := 0) (next := n1) (size := 48) (S := flushS 48 zero8 P) (P := P1) w1.l (n := x % 9) (by omega) (by omega)
  rw [if_neg (by omega), Int.sub_zero] at e3
  rw [hm9, e3]
  simp only [Option.bind_some, Bool.not_true, cond_false]
  have hd := w1.drop (k := (x % 9).toNat) (by omega) (by omega)
  rw [show (0 : Int) + ((x % 9).toNat : Nat) = x % 9 by omega] at hd
  obtain ⟨c2, n2, held2, P2, e4, w2, b2, l2⟩ := Full_loop12 (x1 := x) hm9 hr0.2 (x % 9).toNat 0 c1 n1 _ P1 (by omega) (by rw [List.length_drop]; omega) hd (by omega)
  rw [Int.natCast_zero] at e4
  rw [e4]
  simp only [Option.bind_some, Sum.elim_inr]
  rcases w2.e_small (t := ByteArray.mk #[122]) (by omega) (by decide) with ⟨h8, _⟩ | ⟨_, e5⟩
  · omega
  rw [e5]
  simp only [Option.bind_some, Bool.not_false, cond_true]
  have hlast2 : lastI (x % 9) held2 = 8 + x % 9 := by unfold lastI; omega
  rw [e_Last w2.l, hlast2, u64id (by omega) (by omega)]
  simp only [Option.bind_some, beq_self_eq_true, cond_true]
  simp [e_Base, hm9]
end Go.Proofs.Ytlfedmjjjbhnpaa.S2
