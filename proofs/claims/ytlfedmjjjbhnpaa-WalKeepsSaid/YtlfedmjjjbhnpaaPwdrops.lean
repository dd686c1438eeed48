/-
  WalDrops in plain words.
-/
import Derived.Test.YtlfedmjjjbhnpaaPwrun
import Derived.Test.YtlfedmjjjbhnpaaPwfixed
import Derived.Test.YtlfedmjjjbhnpaaGLWalDrops
set_option linter.unusedVariables false
set_option linter.unusedSimpArgs false
namespace Go.Proofs.Ytlfedmjjjbhnpaa.S2
open Go

/-- The texts of a log. -/
theorem e_texts {base mark next : Int} {held : List W2} {S : List ByteArray} {P : List W2} (h : LInv 8 base held) (hb : base ≤ 4611686018427387904) :
    F_law10_texts () ((0, 8, base, mark, next, ()), (48, ()), held, S, P, ()) = some ((), ((0, 8, base, mark, next, ()), (48, ()), held, S, P, held.map (·.2), ())) := by
  rw [Fe_law10_texts]
  unfold tree_law10_texts
  rw [e_Base]
  simp only [Option.bind_some]
  have hb0 := h.base0
  have e := texts_loop (mark := mark) (next := next) (S := S) (P := P) h hb held.length 0 (by omega)
  rw [Int.natCast_zero, Int.add_zero, List.take_zero, List.map_nil] at e
  rw [u64id (by omega) (by omega), e]
  rfl

/-- A log whose sectors bear no record behind the last one. -/
structure DropI (c : Nat) (base mark next : Int) (held : List W2) (S : List ByteArray) (P : List W2) (D : Int → Option Rec4) : Prop where
  log : WLog c base mark next held S P D
  low : ∀ i : Int, 0 ≤ i → i < 8 → ∀ m k a t, D i = some (m, k, a, t) → k ≤ lastI base held

theorem DropI.append {c : Nat} {base mark next : Int} {held : List W2} {S : List ByteArray} {P : List W2} {D : Int → Option Rec4} (h : DropI c base mark next held S P D) (hc : c + 1 ≤ 1000) {t : ByteArray} (ht : t.size ≤ 281474976710656) :
    ∃ (ok : Bool) (next' : Int) (held' P' : List W2) (D' : Int → Option Rec4), DropI (c + 1) base mark next' held' S P' D' ∧ F_wal_Log_Append (t, ()) ((0, 8, base, mark, next, ()), (48, ()), held, S, P, ()) = some (ok, ((0, 8, base, mark, next', ()), (48, ()), (), S, (), held', P', ())) := by
  rcases h.log.e_append hc ht with ⟨hm, e⟩ | ⟨hm, e⟩
  · refine ⟨true, _, _, _, _, ⟨h.log.append hc hm, fun i h0 h1 m k a u hd => ?_⟩, e⟩
    rw [lastI_snoc]
    unfold putD at hd
    split at hd
    · simp only [Option.some.injEq, Prod.mk.injEq] at hd
      omega
    · have := h.low i h0 h1 m k a u hd
      omega
  · refine ⟨false, _, _, _, D, ⟨⟨⟨h.log.w.l, h.log.w.d, h.log.w.s8, ?_, h.log.w.n1, ?_, h.log.w.m0, ?_, fun p hp => ?_, hc⟩, h.log.reads, ?_, h.log.stand, h.log.lt⟩, h.low⟩, e⟩
    · have := h.log.w.p; omega
    · have := h.log.w.nc; omega
    · have := h.log.w.mc; omega
    · have := h.log.w.hm p hp; omega
    · have := h.log.last; omega

theorem DropI.drop {c : Nat} {base mark next : Int} {held : List W2} {S : List ByteArray} {P : List W2} {D : Int → Option Rec4} (h : DropI c base mark next held S P D) {k : Nat} (hk : k ≤ held.length) : DropI c (base + k) (tailI mark (held.take k)) next (held.drop k) S P D := by
  refine ⟨h.log.drop hk, ?_⟩
  have : lastI (base + k) (held.drop k) = lastI base held := by unfold lastI; rw [List.length_drop]; omega
  rw [this]
  exact h.low

theorem Drops_loop {l : List ByteArray} {dr : List Int} (hl : ∀ t ∈ l, t.size ≤ 281474976710656) (hlen : (l.length : Int) < 9223372036854775808) (hdr : ∀ j : Nat, j < dr.length → 0 ≤ dr.getD j 0 ∧ dr.getD j 0 < 18446744073709551616) {S : List ByteArray} : ∀ (d k c : Nat) (base mark next : Int) (held P : List W2) (D : Int → Option Rec4), k + d = 60 → c ≤ k → DropI c base mark next held S P D →
    ∃ (c' : Nat) (base' mark' next' : Int) (held' P' : List W2) (D' : Int → Option Rec4), L_law10_WalDrops_5w1 (l, dr, (k : Int), ()) (P, held, (48, ()), (0, 8, base, mark, next, ()), S, ()) = some ((), (P', held', (48, ()), (0, 8, base', mark', next', ()), S, ())) ∧
      DropI c' base' mark' next' held' S P' D' ∧ c' ≤ 60
  | 0, k, c, base, mark, next, held, P, D, hk, hc, h => by
    refine ⟨c, base, mark, next, held, P, D, ?_, h, by omega⟩
    rw [Le_law10_WalDrops_5w1]
    unfold ltree_law10_WalDrops_5w1
    by_cases h1 : (k : Int) < l.length
    · rw [cd_t h1, cd_f (by omega)]
    · rw [cd_f h1]
  | d + 1, k, c, base, mark, next, held, P, D, hk, hc, h => by
    by_cases h1 : (k : Int) < l.length
    · have hsz : (l.getD ((k : Int)).toNat ByteArray.empty).size ≤ 281474976710656 := hl _ (getD_mem (by omega))
      have hli := h.log.w.l
      have hlast := hli.last
      have hlen8 := hli.len
      have hb0 := hli.base0
      by_cases h2 : (k : Int) < dr.length ∧ held.length = 8
      · have hd9 := hdr k (by omega)
        have hm9 : (dr.getD k 0).tmod 9 = dr.getD k 0 % 9 := Int.tmod_eq_emod_of_nonneg hd9.1
        have hcl := h.log.last
        have hcb : base ≤ 60 := by unfold lastI at hcl; omega
        have e3 := e_Drop (fr := 0) (mark := mark) (next := next) (size := 48) (S := S) (P := P) hli (n := base + dr.getD k 0 % 9) (by omega) (by omega)
        rw [if_neg (by unfold lastI; omega), show base + dr.getD k 0 % 9 - base = dr.getD k 0 % 9 by omega] at e3
        have hdrop := h.drop (k := (dr.getD k 0 % 9).toNat) (by omega)
        rw [show base + ((dr.getD k 0 % 9).toNat : Nat) = base + dr.getD k 0 % 9 by omega] at hdrop
        obtain ⟨ok, nx, hd', P', D', hi, happ⟩ := hdrop.append (t := l.getD ((k : Int)).toNat ByteArray.empty) (by omega) hsz
        obtain ⟨c', b', m', n', hd'', P'', D'', e1, e2, e4⟩ := Drops_loop hl hlen hdr d (k + 1) (c + 1) _ _ nx hd' P' D' (by omega) (by omega) hi
        refine ⟨c', b', m', n', hd'', P'', D'', ?_, e2, e4⟩
        rw [← e1, Le_law10_WalDrops_5w1]
        unfold ltree_law10_WalDrops_5w1
        rw [cd_t h1, cd_t (by omega), e_Last hli, e_Base]
        simp only [Option.bind_some]
        rw [cd_t h2.1, u64id (by unfold lastI; omega) (by unfold lastI; omega), cond_eqi, if_pos (by unfold lastI; omega)]
        rw [cd_t (by omega), cd_t h2.1, Int.toNat_natCast, hm9, u64id (by omega) (by omega), e3]
        simp only [Option.bind_some]
        rw [cd_t (by omega), cd_t h1]
        rw [Int.toNat_natCast] at happ
        rw [happ]
        simp only [Option.bind_some]
        rw [i64id (by omega) (by omega)]
        rfl
      · obtain ⟨ok, nx, hd', P', D', hi, happ⟩ := h.append (t := l.getD ((k : Int)).toNat ByteArray.empty) (by omega) hsz
        obtain ⟨c', b', m', n', hd'', P'', D'', e1, e2, e4⟩ := Drops_loop hl hlen hdr d (k + 1) (c + 1) _ _ nx hd' P' D' (by omega) (by omega) hi
        refine ⟨c', b', m', n', hd'', P'', D'', ?_, e2, e4⟩
        rw [← e1, Le_law10_WalDrops_5w1]
        unfold ltree_law10_WalDrops_5w1
        rw [cd_t h1, cd_t (by omega), e_Last hli, e_Base]
        simp only [Option.bind_some]
        have fin : ∀ {α : Type} (x : α), x = x := fun _ => rfl
        by_cases h3 : (k : Int) < dr.length
        · rw [cd_t h3, u64id (by unfold lastI; omega) (by unfold lastI; omega), cond_eqi, if_neg (by unfold lastI; omega), cd_t (by omega), cd_t h1, happ]
          simp only [Option.bind_some]
          rw [i64id (by omega) (by omega)]
          rfl
        · rw [cd_f h3, cd_t (by omega), cd_t h1, happ]
          simp only [Option.bind_some]
          rw [i64id (by omega) (by omega)]
          rfl
    · refine ⟨c, base, mark, next, held, P, D, ?_, h, by omega⟩
      rw [Le_law10_WalDrops_5w1]
      unfold ltree_law10_WalDrops_5w1
      rw [cd_f h1]

theorem p_WalDrops {l : List ByteArray} {dr : List Int} (hl : ∀ t ∈ l, t.size ≤ 281474976710656) (hlen : (l.length : Int) < 9223372036854775808) (hdr : ∀ j : Nat, j < dr.length → 0 ≤ dr.getD j 0 ∧ dr.getD j 0 < 18446744073709551616) : F_law10_WalDrops (l, dr, ()) () = some (true, ()) := by
  rw [Fe_law10_WalDrops]
  unfold tree_law10_WalDrops
  rw [e_appended_nil]
  simp only [Option.bind_some, Sum.elim_inr]
  rw [e_fixed10]
  simp only [Option.bind_some, Bool.not_true, cond_false]
  have h0 : DropI 0 0 0 1 [] zero8 [] (fun _ => none) := ⟨wlog_zero, fun i _ _ m k a t h => by cases h⟩
  obtain ⟨c, base, mark, next, held, P, D, e1, h, hc⟩ := Drops_loop (S := zero8) hl hlen hdr 60 0 0 0 0 1 [] [] _ rfl (Nat.le_refl _) h0
  rw [Int.natCast_zero] at e1
  rw [e1]
  simp only [Option.bind_some]
  rw [e_Sync h.log.w.d]
  simp only [Option.bind_some]
  rw [e_Base, e_Mark]
  simp only [Option.bind_some]
  have hs := h.log.sync
  have hli := hs.w.l
  have hb0 := hli.base0
  have hlen8 := hli.len
  have hcl := h.log.last
  have hnc := hs.w.nc
  have hcb : base ≤ 60 := by unfold lastI at hcl; omega
  obtain ⟨g, hg, _, e2⟩ := open_reads (base := base) (mark := mark) (B := c + 1) hs.reads hs.w.s8 (by simp) ⟨hb0, by omega⟩ (fun i h0 h1 => by have := hs.lt i h0 h1; omega) (by omega) (by omega)
  have hch : chainR D 8 base mark = held := by
    rw [chain_held held 8 base mark hs.stand (by omega), chain_stop, List.append_nil]
    intro m k a t hd hx
    have := h.low _ (by omega) (by omega) m k a t hd
    unfold lastI at this
    omega
  rw [hch] at e2
  rw [e2]
  simp only [Option.bind_some, Sum.elim_inr]
  rw [e_Base, e_Base]
  simp only [Option.bind_some, beq_self_eq_true, cond_true]
  rw [e_Last hli, e_Last hli]
  simp only [Option.bind_some, beq_self_eq_true, cond_true]
  rw [e_texts hli (by omega)]
  simp only [Option.bind_some]
  rw [e_texts hli (by omega)]
  simp only [Option.bind_some]
  rw [e_Texts (by rw [List.length_map]; omega), decide_eq_true rfl]
  simp only [Option.bind_some, cond_true]
  rw [e_Last hli, e_Base]
  simp only [Option.bind_some]
  rw [u64id (by unfold lastI; omega) (by unfold lastI; omega), decide_eq_true (by unfold lastI; omega)]
end Go.Proofs.Ytlfedmjjjbhnpaa.S2
