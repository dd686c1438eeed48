/-
  WalCuts in plain words.
-/
import Derived.Test.YtlfedmjjjbhnpaaPwkeeps
import Derived.Test.YtlfedmjjjbhnpaaGLWalCuts
set_option linter.unusedVariables false
set_option linter.unusedSimpArgs false
namespace Go.Proofs.Ytlfedmjjjbhnpaa.S2
open Go

section
variable {k0 : Nat} {nx0 : Int} {heldA : List W2} {D0 : Int → Option Rec4} {S : List ByteArray}

theorem Cuts_loop10 (l x1 : List ByteArray) {keep : List Int} {x3 : List ByteArray} {x4 : Int} (hl : ∀ t ∈ l, t.size ≤ 281474976710656) (hlen : (l.length : Int) < 9223372036854775808) : ∀ (d k c : Nat) (next : Int) (held P : List W2) (D : Int → Option Rec4), k + d = 8 → Phase k0 nx0 heldA D0 c next held S P D → c + d ≤ 900 →
    ∃ (c' : Nat) (next' : Int) (held' P' : List W2) (D' : Int → Option Rec4), L_law10_WalCuts_10 (keep, l, x3, x4, (k : Int), ()) (held.map (·.2), P, held, (x1, l, ()), (48, ()), (0, 8, 0, 0, next, ()), S, ()) = some ((keep, x3, x4, ()), (held'.map (·.2), P', held', (48, ()), (0, 8, 0, 0, next', ()), S, ())) ∧
      Phase k0 nx0 heldA D0 c' next' held' S P' D' ∧ c' ≤ c + d
  | 0, k, c, next, held, P, D, hk, h, hc => by
    refine ⟨c, next, held, P, D, ?_, h, by omega⟩
    rw [Le_law10_WalCuts_10]
    unfold ltree_law10_WalCuts_10
    by_cases h1 : (k : Int) < l.length
    · rw [cd_t h1, cd_f (by omega)]
    · rw [cd_f h1]
  | d + 1, k, c, next, held, P, D, hk, h, hc => by
    by_cases h1 : (k : Int) < l.length
    · have hsz : (l.getD ((k : Int)).toNat ByteArray.empty).size ≤ 281474976710656 := hl _ (getD_mem (by omega))
      have h8 := h.log.w.l.len
      rcases h.log.e_append (by omega) hsz with ⟨hm, happ⟩ | ⟨hm, happ⟩
      · obtain ⟨c', n', hd', P', D', e1, e2, e3⟩ := Cuts_loop10 l x1 hl hlen d (k + 1) (c + 1) (next + 1) _ _ _ (by omega) (h.append (by omega) hm) (by omega)
        refine ⟨c', n', hd', P', D', ?_, e2, by omega⟩
        rw [← e1, Le_law10_WalCuts_10]
        unfold ltree_law10_WalCuts_10
        rw [cd_t h1, cd_t (by omega), cd_t (by omega), cd_t h1, happ]
        simp only [Option.bind_some, cond_true]
        rw [cd_t (by omega), cd_t h1, cd_t (by rw [List.length_map]; omega), i64id (by omega) (by omega)]
        simp
      · obtain ⟨c', n', hd', P', D', e1, e2, e3⟩ := Cuts_loop10 l x1 hl hlen d (k + 1) c next held P D (by omega) h (by omega)
        refine ⟨c', n', hd', P', D', ?_, e2, by omega⟩
        rw [← e1, Le_law10_WalCuts_10]
        unfold ltree_law10_WalCuts_10
        rw [cd_t h1, cd_t (by omega), cd_t (by omega), cd_t h1, happ]
        simp only [Option.bind_some, cond_false]
        rw [i64id (by omega) (by omega)]
        rfl
    · refine ⟨c, next, held, P, D, ?_, h, by omega⟩
      rw [Le_law10_WalCuts_10]
      unfold ltree_law10_WalCuts_10
      rw [cd_f h1]
end

theorem getD_take {α : Type} (l : List α) (d : α) {i k : Nat} (h : i < k) : (l.take k).getD i d = l.getD i d := by
  rw [List.getD_eq_getElem?_getD, List.getD_eq_getElem?_getD, List.getElem?_take, if_pos h]

theorem getD_drop {α : Type} (l : List α) (d : α) (i k : Nat) : (l.drop k).getD i d = l.getD (k + i) d := by
  rw [List.getD_eq_getElem?_getD, List.getD_eq_getElem?_getD, List.getElem?_drop]

/-- The mark ahead of a record behind some first ones. -/
theorem tail_drop (l : List W2) {k j : Nat} (hk : k ≤ l.length) : tailI (tailI 0 (l.take k)) ((l.drop k).take j) = tailI 0 (l.take (k + j)) := by
  rw [tailI_tailI, List.take_add]

theorem tail_all (l : List W2) {k : Nat} (hk : k ≤ l.length) : tailI (tailI 0 (l.take k)) (l.drop k) = tailI 0 (l.take l.length) := by
  rw [tailI_tailI, List.take_append_drop, List.take_length]

section
variable {c1 c k : Nat} {next1 next : Int} {old held PA P : List W2} {DA D D2 : Int → Option Rec4}

/-- Where old records stand, and new ones behind the cut. -/
structure CutI (c1 c k : Nat) (next1 next : Int) (old held PA P : List W2) (DA D : Int → Option Rec4) : Prop where
  a : Phase 0 1 [] (fun _ => none) c1 next1 old zero8 PA DA
  b : Phase k next1 (old.take k) DA c next held (flushS 48 zero8 PA) P D
  kl : k ≤ old.length

theorem CutI.oldAt (h : CutI c1 c k next1 next old held PA P DA D) {j : Nat} (hj : j < 8) : (j < old.length ∧ DA (((j : Int) + 1) % 8) = some (((j : Int) + 1), (j : Int) + 1, tailI 0 (old.take j), (old.getD j (0, ByteArray.empty)).2) ∧ (old.getD j (0, ByteArray.empty)).1 = (j : Int) + 1) ∨ (old.length ≤ j ∧ DA (((j : Int) + 1) % 8) = none) := by
  by_cases hl : j < old.length
  · have h1 := h.a.at hl
    have h2 := h.a.num j (Nat.zero_le _) hl
    rw [show (1 : Int) + ((j - 0 : Nat) : Int) = j + 1 by omega] at h2
    rw [h2] at h1
    exact .inl ⟨hl, h1, h2⟩
  · exact .inr ⟨by omega, h.a.same hj (by omega)⟩

theorem CutI.nx (h : CutI c1 c k next1 next old held PA P DA D) : next1 = 1 + old.length := by
  have := h.a.nx
  omega

/-- Behind the first one of the new records no old one fits. -/
theorem CutI.tailNew (h : CutI c1 c k next1 next old held PA P DA D) {j : Nat} (h1 : k ≤ j) (h2 : j < held.length) : tailI 0 (held.take (j + 1)) = next1 + (j - k : Nat) := by
  rw [tail_take 0 h2, h.b.num j h1 h2]

theorem CutI.tailOld (h : CutI c1 c k next1 next old held PA P DA D) {j : Nat} (h2 : j < old.length) : tailI 0 (old.take (j + 1)) = (j : Int) + 1 := by
  have := h.a.num j (Nat.zero_le _) h2
  rw [tail_take 0 h2, this]
  omega

theorem CutI.pre (h : CutI c1 c k next1 next old held PA P DA D) : held.take k = old.take k := h.b.pre

/-- The first records stand whatever happened. -/
theorem CutI.first (h : CutI c1 c k next1 next old held PA P DA D) (h2 : ∀ i : Int, 0 ≤ i → i < 8 → (D2 i = none ∨ D2 i = DA i ∨ D2 i = D i) ∧ ((∀ q ∈ P, q.1 ≠ i) → D2 i = DA i)) : Stand D2 0 0 (old.take k) := by
  intro j hj
  rw [List.length_take] at hj
  have h8 := h.a.log.w.l.len
  rw [show (0 : Int) + 1 + j = j + 1 by omega, (h2 _ (by omega) (by omega)).2 (h.b.free (by omega) (.inl (by omega))), h.a.at (show j < old.length by omega), getD_take _ _ (by omega), List.take_take, Nat.min_eq_left (by omega)]

theorem CutI.crash (h : CutI c1 c k next1 next old held PA P DA D) (h2 : ∀ i : Int, 0 ≤ i → i < 8 → (D2 i = none ∨ D2 i = DA i ∨ D2 i = D i) ∧ ((∀ q ∈ P, q.1 ≠ i) → D2 i = DA i)) :
    ∃ p : Nat, k ≤ p ∧ ((p ≤ held.length ∧ chainR D2 8 0 0 = held.take p) ∨ (p ≤ old.length ∧ chainR D2 8 0 0 = old.take p)) := by
  have hkl := h.kl
  have hkh := h.b.k
  have l8 := h.a.log.w.l.len
  have h8 := h.b.log.w.l.len
  have hnx := h.nx
  have hlk : (old.take k).length = k := by rw [List.length_take]; omega
  have hc := chain_held (old.take k) 8 0 0 (h.first h2) (by omega)
  rw [hlk, Int.zero_add] at hc
  by_cases hk8 : k < 8
  · -- what may stand behind the cut
    have hat : ∀ j : Nat, k ≤ j → j < 8 → D2 (((j : Int) + 1) % 8) = none ∨ (j < old.length ∧ D2 (((j : Int) + 1) % 8) = some (((j : Int) + 1), (j : Int) + 1, tailI 0 (old.take j), (old.getD j (0, ByteArray.empty)).2) ∧ (old.getD j (0, ByteArray.empty)).1 = (j : Int) + 1) ∨
        (j < held.length ∧ D2 (((j : Int) + 1) % 8) = some ((held.getD j (0, ByteArray.empty)).1, (j : Int) + 1, tailI 0 (held.take j), (held.getD j (0, ByteArray.empty)).2)) := by
      intro j j1 j2
      rcases (h2 (((j : Int) + 1) % 8) (by omega) (by omega)).1 with e | e | e
      · exact .inl e
      · rcases h.oldAt j2 with ⟨o1, o2, o3⟩ | ⟨o1, o2⟩
        · exact .inr (.inl ⟨o1, e.trans o2, o3⟩)
        · exact .inl (e.trans o2)
      · by_cases hj : j < held.length
        · exact .inr (.inr ⟨hj, e.trans (h.b.at hj)⟩)
        · have e' := e.trans (h.b.same j2 (by omega))
          rcases h.oldAt j2 with ⟨o1, o2, o3⟩ | ⟨o1, o2⟩
          · exact .inr (.inl ⟨o1, e'.trans o2, o3⟩)
          · exact .inl (e'.trans o2)
    have hstop : ∀ (n : Nat) (a : Int), D2 (((n : Int) + 1) % 8) = none → Stop D2 (n : Int) a := fun n a e => stop_none e
    rcases hat k (Nat.le_refl _) hk8 with e | ⟨e1, e2, e3⟩ | ⟨e1, e2⟩
    · rw [chain_stop (hstop k _ e), List.append_nil] at hc
      exact ⟨k, Nat.le_refl _, .inr ⟨hkl, hc⟩⟩
    · -- the old ones
      obtain ⟨p, p1, p2, p3, p4⟩ := chain_some (D := D2) (old.drop k) (8 - k) k (tailI 0 (old.take k)) (by rw [List.length_drop]; omega) (fun j hj => by
        rw [List.length_drop] at hj
        rw [getD_drop, tail_drop old hkl, show (k : Int) + 1 + j = ((k + j : Nat) : Int) + 1 by omega, show (k : Int) + j = ((k + j : Nat) : Int) by omega]
        rcases hat (k + j) (by omega) (by omega) with g | ⟨g1, g2, g3⟩ | ⟨g1, g2⟩
        · exact .inl (hstop _ _ g)
        · rw [g3]; exact .inr g2
        · by_cases hj0 : j = 0
          · subst hj0
            rw [Nat.add_zero, e3]
            exact .inr e2
          · refine .inl fun m q a' t hD hx => ?_
            rw [g2] at hD
            simp only [Option.some.injEq, Prod.mk.injEq] at hD
            have t1 := h.tailNew (j := k + j - 1) (by omega) (by omega)
            have t2 := h.tailOld (j := k + j - 1) (by omega)
            rw [show k + j - 1 + 1 = k + j by omega] at t1 t2
            omega) (fun hl => by
        rw [List.length_drop] at hl ⊢
        have ht := tail_all old hkl
        rw [ht, show (k : Int) + ((old.length - k : Nat) : Int) = (old.length : Int) by omega]
        rcases hat old.length hkl (by omega) with g | ⟨g1, g2, g3⟩ | ⟨g1, g2⟩
        · exact hstop _ _ g
        · omega
        · intro m q a' t hD hx
          rw [g2] at hD
          simp only [Option.some.injEq, Prod.mk.injEq] at hD
          have t1 := h.tailNew (j := old.length - 1) (by omega) (by omega)
          have t2 := h.tailOld (j := old.length - 1) (by omega)
          rw [show old.length - 1 + 1 = old.length by omega] at t1 t2
          omega)
      rw [p2, ← List.take_add] at hc
      rw [List.length_drop] at p1
      exact ⟨k + p, by omega, .inr ⟨by omega, hc⟩⟩
    · -- the new ones
      obtain ⟨p, p1, p2, p3, p4⟩ := chain_some (D := D2) (held.drop k) (8 - k) k (tailI 0 (held.take k)) (by rw [List.length_drop]; omega) (fun j hj => by
        rw [List.length_drop] at hj
        rw [getD_drop, tail_drop held hkh, show (k : Int) + 1 + j = ((k + j : Nat) : Int) + 1 by omega, show (k : Int) + j = ((k + j : Nat) : Int) by omega]
        rcases hat (k + j) (by omega) (by omega) with g | ⟨g1, g2, g3⟩ | ⟨g1, g2⟩
        · exact .inl (hstop _ _ g)
        · by_cases hj0 : j = 0
          · subst hj0
            rw [Nat.add_zero]
            exact .inr e2
          · refine .inl fun m q a' t hD hx => ?_
            rw [g2] at hD
            simp only [Option.some.injEq, Prod.mk.injEq] at hD
            have t1 := h.tailNew (j := k + j - 1) (by omega) (by omega)
            have t2 := h.tailOld (j := k + j - 1) (by omega)
            rw [show k + j - 1 + 1 = k + j by omega] at t1 t2
            omega
        · exact .inr g2) (fun hl => by
        rw [List.length_drop] at hl ⊢
        have ht := tail_all held hkh
        rw [ht, show (k : Int) + ((held.length - k : Nat) : Int) = (held.length : Int) by omega]
        rcases hat held.length hkh (by omega) with g | ⟨g1, g2, g3⟩ | ⟨g1, g2⟩
        · exact hstop _ _ g
        · intro m q a' t hD hx
          rw [g2] at hD
          simp only [Option.some.injEq, Prod.mk.injEq] at hD
          have t1 := h.tailNew (j := held.length - 1) (by omega) (by omega)
          have t2 := h.tailOld (j := held.length - 1) (by omega)
          rw [show held.length - 1 + 1 = held.length by omega] at t1 t2
          omega
        · omega)
      rw [h.pre] at p2
      rw [p2, ← h.pre, ← List.take_add] at hc
      rw [List.length_drop] at p1
      exact ⟨k + p, by omega, .inl ⟨by omega, hc⟩⟩
  · have : 8 - k = 0 := by omega
    rw [this] at hc
    have h0 : chainR D2 0 (k : Int) (tailI 0 (old.take k)) = [] := rfl
    rw [h0, List.append_nil] at hc
    exact ⟨k, Nat.le_refl _, .inr ⟨hkl, hc⟩⟩

theorem CutI.sync (h : CutI c1 c k next1 next old held PA P DA D) : chainR D 8 0 0 = held ∨ (held.length = k ∧ chainR D 8 0 0 = old) := by
  have hkl := h.kl
  have hkh := h.b.k
  have l8 := h.a.log.w.l.len
  have h8 := h.b.log.w.l.len
  have hnx := h.nx
  by_cases hh : held.length = k
  · right
    refine ⟨hh, ?_⟩
    have hst : Stand D 0 0 old := by
      intro j hj
      rw [show (0 : Int) + 1 + j = j + 1 by omega]
      have hD : D (((j : Int) + 1) % 8) = DA (((j : Int) + 1) % 8) := by
        by_cases hjk : j < k
        · exact h.b.keeps j hjk
        · exact h.b.same (by omega) (by omega)
      rw [hD]
      exact h.a.at hj
    rw [chain_held old 8 0 0 hst (by omega)]
    by_cases ho : old.length < 8
    · rw [chain_stop (stop_none ?_), List.append_nil]
      rw [Int.zero_add, h.b.same ho (by omega)]
      exact h.a.same ho (Nat.le_refl _)
    · rw [show 8 - old.length = 0 by omega]
      show old ++ [] = _
      rw [List.append_nil]
  · left
    rw [chain_held held 8 0 0 h.b.log.stand (by omega)]
    by_cases ho : held.length < 8
    · rw [chain_stop, List.append_nil]
      intro m q a' t hD hx
      rw [Int.zero_add, h.b.same ho (Nat.le_refl _)] at hD
      rcases h.oldAt ho with ⟨o1, o2, o3⟩ | ⟨o1, o2⟩
      · rw [o2] at hD
        simp only [Option.some.injEq, Prod.mk.injEq] at hD
        have t1 := h.tailNew (j := held.length - 1) (by omega) (by omega)
        have t2 := h.tailOld (j := held.length - 1) (by omega)
        rw [show held.length - 1 + 1 = held.length by omega] at t1 t2
        rw [List.take_length] at t1
        omega
      · rw [o2] at hD; cases hD
    · rw [show 8 - held.length = 0 by omega]
      show held ++ [] = _
      rw [List.append_nil]
end

theorem p_WalCuts {l more : List ByteArray} {x : Int} {keep : List Int} (hl : ∀ t ∈ l, t.size ≤ 281474976710656) (hlen : (l.length : Int) < 9223372036854775808) (hl2 : ∀ t ∈ more, t.size ≤ 281474976710656) (hlen2 : (more.length : Int) < 9223372036854775808) (h0 : 0 ≤ x) (h1 : x < 18446744073709551616) : F_law10_WalCuts ((l, more, ()), x, keep, ()) () = some (true, ()) := by
  obtain ⟨c1, next1, old, PA, DA, ea, hA, hc1⟩ := e_appendedP l hl hlen
  have hlo := hA.log.w.l.len
  have hws := hA.log.w.sync
  rw [Fe_law10_WalCuts]
  unfold tree_law10_WalCuts
  rw [ea]
  simp only [Option.bind_some, Sum.elim_inr]
  rw [e_fixed10]
  simp only [Option.bind_some, Bool.not_true, cond_false]
  have ecut := e_Cut (fr := 0) (mark := 0) (next := next1) (size := 48) (S := flushS 48 zero8 PA) (P := []) hws.l h0 h1
  rw [ecut]
  simp only [Option.bind_some, List.length_map]
  have hlast : lastI 0 old = old.length := by unfold lastI; omega
  rw [u64id (n := (old.length : Int)) (by omega) (by omega)]
  by_cases hx : x > old.length
  · rw [if_pos (by omega), decide_eq_false (by omega), cd_t hx]
    simp [hx]
  · rw [if_neg (by omega), decide_eq_true (show x ≤ (old.length : Int) by omega), cd_f hx, i64id (by omega) (by omega), cd_t h0, cd_t (by omega), Int.sub_zero]
    simp only [bne_self_eq_false, cond_false]
    obtain ⟨k, rfl⟩ : ∃ k : Nat, x = k := ⟨x.toNat, by omega⟩
    rw [Int.toNat_natCast, List.drop_zero, List.nil_append, ← List.map_take, cd_t (by rw [List.length_map, List.length_take]; omega)]
    have hB := hA.next (k := k) (by omega)
    obtain ⟨c, next, held, P, D, eb, h, hc⟩ := Cuts_loop10 (keep := keep) (x3 := old.map (·.2)) (x4 := (k : Int)) more l hl2 hlen2 8 0 c1 next1 (old.take k) [] DA rfl hB (by omega)
    rw [Int.natCast_zero] at eb
    rw [eb]
    simp only [Option.bind_some]
    have hI : CutI c1 c k next1 next old held PA P DA D := ⟨hA, h, by omega⟩
    have hlH := h.log.w.l.len
    have hkH := h.k
    have hd := h.log.w.d
    have hS := h.log.w.s8
    have hnc := h.log.w.nc
    have hn1 := h.log.w.n1
    have hkeep0 : ∀ (y : Option (Bool × Unit)) (z : Option (Bool × Unit)), True := fun _ _ => trivial
    by_cases hk0 : (keep.length : Int) = 0
    · have hkb : ((keep.length : Int) == 0) = true := by rw [hk0]; rfl
      simp only [hkb, cond_true]
      have hz := h.log.sync
      rw [e_Sync hd]
      simp only [Option.bind_some]
      obtain ⟨g2, hg2, _, e2⟩ := open_reads (base := 0) (mark := 0) (B := c) hz.reads hz.w.s8 (by simp) (by decide) (fun i h0 h1 => by have := hz.lt i h0 h1; omega) (by omega) (by omega)
      rw [e2]
      simp only [Option.bind_some, Sum.elim_inr]
      rcases hI.sync with e | ⟨e1, e⟩
      · rw [e, e_texts h.log.w.l (by decide)]
        simp only [Option.bind_some]
        rw [e_Texts (by rw [List.length_map]; omega), decide_eq_true rfl]
        simp only [Option.bind_some, cond_true]
      · rw [e, e_texts hA.log.w.l (by decide)]
        simp only [Option.bind_some]
        rw [e_Texts (by rw [List.length_map]; omega), e_Texts (by rw [List.length_map]; omega)]
        have hhk : ((((held.map (·.2)).length : Nat) : Int) == (k : Int)) = true := by rw [List.length_map, e1]; simp
        rw [hhk, decide_eq_true (p := old.map (·.2) = old.map (·.2)) rfl]
        simp only [Option.bind_some, cond_true]
        cases decide (old.map (·.2) = held.map (·.2)) <;> rfl
    · have hkb : ((keep.length : Int) == 0) = false := by rw [beq_eq_false_iff_ne]; exact hk0
      simp only [hkb, cond_false]
      rw [e_Crash hd]
      simp only [Option.bind_some]
      obtain ⟨D2, hr, h2⟩ := h.pend.crash hS h.marks (c := fun k => (clampS 48 (keep.getD k 0)).toNat) (fun k => clampN (by decide))
      have hS2 : (keepS (fun k => (clampS 48 (keep.getD k 0)).toNat) 0 (flushS 48 zero8 PA) P).length = 8 := by rw [keepS_len]; exact hS
      revert hr hS2
      generalize keepS (fun k => (clampS 48 (keep.getD k 0)).toNat) 0 (flushS 48 zero8 PA) P = S2
      intro hr hS2
      obtain ⟨g, hg, hgm, e1⟩ := open_reads (base := 0) (mark := 0) (B := c) hr hS2 (by simp) (by decide) (fun i h0 h1 => by
        have o := h.old i h0 h1
        have n := h.log.lt i h0 h1
        have hnx := h.nx
        rcases (h2 i h0 h1).1 with e | e | e
        · rw [e]; show (0 : Int) ≤ c; omega
        · rw [e]; omega
        · rw [e]; omega) (by omega) (by omega)
      rw [e1]
      simp only [Option.bind_some, Sum.elim_inr]
      obtain ⟨p, p1, hp⟩ := hI.crash h2
      rcases hp with ⟨p2, p3⟩ | ⟨p2, p3⟩
      · have hpl : (held.take p).length = p := by rw [List.length_take]; omega
        rw [p3, e_texts ⟨by decide, by decide, by decide, by decide, by omega⟩ (by decide)]
        simp only [Option.bind_some]
        rw [cd_t (by rw [List.length_map, hpl]; omega), e_begins (by rw [List.length_map]; omega), decide_eq_true ⟨by rw [List.length_map, List.length_map]; omega, by rw [List.length_map, hpl, List.map_take]⟩]
        simp only [Option.bind_some, cond_true]
      · have hpl : (old.take p).length = p := by rw [List.length_take]; omega
        rw [p3, e_texts ⟨by decide, by decide, by decide, by decide, by omega⟩ (by decide)]
        simp only [Option.bind_some]
        rw [cd_t (by rw [List.length_map, hpl]; omega), e_begins (by rw [List.length_map]; omega), e_begins (by rw [List.length_map]; omega)]
        rw [decide_eq_true (p := ((old.take p).map (·.2)).length ≤ (old.map (·.2)).length ∧ (old.take p).map (·.2) = (old.map (·.2)).take ((old.take p).map (·.2)).length) ⟨by rw [List.length_map, List.length_map]; omega, by rw [List.length_map, hpl, List.map_take]⟩]
        simp only [Option.bind_some]
        cases decide (((old.take p).map (·.2)).length ≤ (held.map (·.2)).length ∧ (old.take p).map (·.2) = (held.map (·.2)).take ((old.take p).map (·.2)).length) <;> rfl
end Go.Proofs.Ytlfedmjjjbhnpaa.S2
