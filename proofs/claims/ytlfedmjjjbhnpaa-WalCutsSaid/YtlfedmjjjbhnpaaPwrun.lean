/-
  law10's helpers: a log that is filled, its texts.
-/
import Derived.Test.YtlfedmjjjbhnpaaPwphase
set_option linter.unusedVariables false
set_option linter.unusedSimpArgs false
namespace Go.Proofs.Ytlfedmjjjbhnpaa.S2
open Go

section
variable {k0 : Nat} {nx0 : Int} {heldA : List W2} {D0 : Int → Option Rec4} {S : List ByteArray}

theorem App_loopP (l : List ByteArray) (hl : ∀ t ∈ l, t.size ≤ 281474976710656) (hlen : (l.length : Int) < 9223372036854775808) : ∀ (d k c : Nat) (next : Int) (held P : List W2) (D : Int → Option Rec4), k + d = 8 → Phase k0 nx0 heldA D0 c next held S P D → c + d ≤ 1000 →
    ∃ (c' : Nat) (next' : Int) (held' P' : List W2) (D' : Int → Option Rec4), L_law10_appended_9 (l, (k : Int), ()) (held.map (·.2), P, held, (48, ()), S, (0, 8, 0, 0, next, ()), ()) = some ((), (held'.map (·.2), P', held', (48, ()), S, (0, 8, 0, 0, next', ()), ())) ∧
      Phase k0 nx0 heldA D0 c' next' held' S P' D' ∧ c' ≤ c + d
  | 0, k, c, next, held, P, D, hk, h, hc => by
    refine ⟨c, next, held, P, D, ?_, h, by omega⟩
    rw [Le_law10_appended_9]
    unfold ltree_law10_appended_9
    by_cases h1 : (k : Int) < l.length
    · rw [cd_t h1, cd_f (by omega)]
    · rw [cd_f h1]
  | d + 1, k, c, next, held, P, D, hk, h, hc => by
    by_cases h1 : (k : Int) < l.length
    · have hsz : (l.getD ((k : Int)).toNat ByteArray.empty).size ≤ 281474976710656 := hl _ (getD_mem (by omega))
      have h8 := h.log.w.l.len
      rcases h.log.e_append (by omega) hsz with ⟨hm, happ⟩ | ⟨hm, happ⟩
      · obtain ⟨c', n', hd', P', D', e1, e2, e3⟩ := App_loopP l hl hlen d (k + 1) (c + 1) (next + 1) _ _ _ (by omega) (h.append (by omega) hm) (by omega)
        refine ⟨c', n', hd', P', D', ?_, e2, by omega⟩
        rw [← e1, Le_law10_appended_9]
        unfold ltree_law10_appended_9
        rw [cd_t h1, cd_t (by omega), cd_t (by omega), cd_t h1, happ]
        simp only [Option.bind_some, cond_true]
        rw [cd_t (by omega), cd_t h1, cd_t (by rw [List.length_map]; omega), i64id (by omega) (by omega)]
        simp
      · obtain ⟨c', n', hd', P', D', e1, e2, e3⟩ := App_loopP l hl hlen d (k + 1) c next held P D (by omega) h (by omega)
        refine ⟨c', n', hd', P', D', ?_, e2, by omega⟩
        rw [← e1, Le_law10_appended_9]
        unfold ltree_law10_appended_9
        rw [cd_t h1, cd_t (by omega), cd_t (by omega), cd_t h1, happ]
        simp only [Option.bind_some, cond_false]
        rw [i64id (by omega) (by omega)]
        rfl
    · refine ⟨c, next, held, P, D, ?_, h, by omega⟩
      rw [Le_law10_appended_9]
      unfold ltree_law10_appended_9
      rw [cd_f h1]
end

theorem e_appendedP (l : List ByteArray) (hl : ∀ t ∈ l, t.size ≤ 281474976710656) (hlen : (l.length : Int) < 9223372036854775808) :
    ∃ (c : Nat) (next : Int) (held P : List W2) (D : Int → Option Rec4), F_law10_appended (l, ()) () = some (.inr ((held.map (·.2), true, ()), ((48, ()), (0, 8, 0, 0, next, ()), flushS 48 zero8 P, [], held, ()))) ∧
      Phase 0 1 [] (fun _ => none) c next held zero8 P D ∧ c ≤ 8 := by
  obtain ⟨c, next, held, P, D, e1, e2, e3⟩ := App_loopP l hl hlen 8 0 0 1 [] [] _ rfl phase_zero (by decide)
  refine ⟨c, next, held, P, D, ?_, e2, by omega⟩
  rw [Fe_law10_appended]
  unfold tree_law10_appended
  rw [e_New ⟨by decide, by decide, by decide, by decide⟩]
  simp only [Option.bind_some, Sum.elim_inr]
  rw [show (List.replicate (8 : Int).toNat (zerosB (48 : Int).toNat)) = zero8 from rfl, open_zero8]
  simp only [Option.bind_some, Sum.elim_inr]
  simp only [List.map_nil, Int.natCast_zero] at e1
  simp only [e1, e_Sync e2.log.w.d, Option.bind_some]

theorem e_appended_nil : F_law10_appended ([], ()) () = some (.inr (([], true, ()), ((48, ()), (0, 8, 0, 0, 1, ()), zero8, [], [], ()))) := by
  rw [Fe_law10_appended]
  unfold tree_law10_appended
  rw [e_New ⟨by decide, by decide, by decide, by decide⟩]
  simp only [Option.bind_some, Sum.elim_inr]
  rw [show (List.replicate (8 : Int).toNat (zerosB (48 : Int).toNat)) = zero8 from rfl, open_zero8]
  simp only [Option.bind_some, Sum.elim_inr]
  rw [Le_law10_appended_9]
  unfold ltree_law10_appended_9
  rw [cd_f (by decide)]
  simp only [Option.bind_some]
  rw [e_Sync winv_zero8.d]
  rfl

/-- What a log is behind the safe records: synced. -/
theorem Phase.next {c : Nat} {next : Int} {held P : List W2} {D : Int → Option Rec4} (h : Phase 0 1 [] (fun _ => none) c next held zero8 P D) {k : Nat} (hk : k ≤ held.length) :
    Phase k next (held.take k) D c next (held.take k) (flushS 48 zero8 P) [] D := by
  have hl := h.log.sync
  have hlen := h.log.w.l.len
  have hw := h.log.w.sync
  refine ⟨⟨⟨⟨hw.l.many2, hw.l.many128, hw.l.base0, hw.l.base62, by rw [List.length_take]; omega⟩, hw.d, hw.s8, hw.p, hw.n1, hw.nc, hw.m0, hw.mc, fun p hp => hw.hm p (List.mem_of_mem_take hp), hw.c1⟩, hl.reads, ?_, ?_, hl.lt⟩, h.pend.flush h.log.w.d h.log.w.s8, by rw [List.length_take]; omega, List.take_take ▸ by rw [Nat.min_self], fun q hq => (by cases hq), ?_, ?_, hl.lt, fun j hj => rfl, ?_⟩
  · have := hl.last
    unfold lastI at this ⊢
    rw [List.length_take]
    omega
  · intro j hj
    rw [List.length_take] at hj
    have := hl.stand j (by omega)
    rw [this, List.getD_eq_getElem?_getD, List.getD_eq_getElem?_getD, List.getElem?_take, if_pos (by omega), List.take_take, Nat.min_eq_left (by omega)]
  · intro j j1 j2
    rw [List.length_take] at j2
    omega
  · rw [List.length_take]; omega
  · intro j j1 j2
    rw [List.length_take] at j2
    omega
end Go.Proofs.Ytlfedmjjjbhnpaa.S2
