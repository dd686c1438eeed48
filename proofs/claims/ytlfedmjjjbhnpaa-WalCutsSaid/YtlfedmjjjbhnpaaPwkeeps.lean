/-
  WalKeeps in plain words.
-/
import Derived.Test.YtlfedmjjjbhnpaaPwdrops
import Derived.Test.YtlfedmjjjbhnpaaGLWalKeeps
set_option linter.unusedVariables false
set_option linter.unusedSimpArgs false
namespace Go.Proofs.Ytlfedmjjjbhnpaa.S2
open Go

section
variable {k0 : Nat} {nx0 : Int} {heldA : List W2} {D0 : Int → Option Rec4} {S : List ByteArray}

theorem Keeps_loop6 (l : List ByteArray) {keep : List Int} {x3 : List ByteArray} (hl : ∀ t ∈ l, t.size ≤ 281474976710656) (hlen : (l.length : Int) < 9223372036854775808) : ∀ (d k c : Nat) (next : Int) (held P : List W2) (D : Int → Option Rec4), k + d = 8 → Phase k0 nx0 heldA D0 c next held S P D → c + d ≤ 900 →
    ∃ (c' : Nat) (next' : Int) (held' P' : List W2) (D' : Int → Option Rec4), L_law10_WalKeeps_6w1 (l, keep, x3, (k : Int), ()) (held.map (·.2), P, held, (48, ()), (0, 8, 0, 0, next, ()), S, ()) = some ((keep, x3, ()), (held'.map (·.2), P', held', (48, ()), (0, 8, 0, 0, next', ()), S, ())) ∧
      Phase k0 nx0 heldA D0 c' next' held' S P' D' ∧ c' ≤ c + d
  | 0, k, c, next, held, P, D, hk, h, hc => by
    refine ⟨c, next, held, P, D, ?_, h, by omega⟩
    rw [Le_law10_WalKeeps_6w1]
    unfold ltree_law10_WalKeeps_6w1
    by_cases h1 : (k : Int) < l.length
    · rw [cd_t h1, cd_f (by omega)]
    · rw [cd_f h1]
  | d + 1, k, c, next, held, P, D, hk, h, hc => by
    by_cases h1 : (k : Int) < l.length
    · have hsz : (l.getD ((k : Int)).toNat ByteArray.empty).size ≤ 281474976710656 := hl _ (getD_mem (by omega))
      have h8 := h.log.w.l.len
      rcases h.log.e_append (by omega) hsz with ⟨hm, happ⟩ | ⟨hm, happ⟩
      · obtain ⟨c', n', hd', P', D', e1, e2, e3⟩ := Keeps_loop6 l hl hlen d (k + 1) (c + 1) (next + 1) _ _ _ (by omega) (h.append (by omega) hm) (by omega)
        refine ⟨c', n', hd', P', D', ?_, e2, by omega⟩
        rw [← e1, Le_law10_WalKeeps_6w1]
        unfold ltree_law10_WalKeeps_6w1
        rw [cd_t h1, cd_t (by omega), cd_t (by omega), cd_t h1, happ]
        simp only [Option.bind_some, cond_true]
        rw [cd_t (by omega), cd_t h1, cd_t (by rw [List.length_map]; omega), i64id (by omega) (by omega)]
        simp
      · obtain ⟨c', n', hd', P', D', e1, e2, e3⟩ := Keeps_loop6 l hl hlen d (k + 1) c next held P D (by omega) h (by omega)
        refine ⟨c', n', hd', P', D', ?_, e2, by omega⟩
        rw [← e1, Le_law10_WalKeeps_6w1]
        unfold ltree_law10_WalKeeps_6w1
        rw [cd_t h1, cd_t (by omega), cd_t (by omega), cd_t h1, happ]
        simp only [Option.bind_some, cond_false]
        rw [i64id (by omega) (by omega)]
        rfl
    · refine ⟨c, next, held, P, D, ?_, h, by omega⟩
      rw [Le_law10_WalKeeps_6w1]
      unfold ltree_law10_WalKeeps_6w1
      rw [cd_f h1]

theorem Phase.free {c : Nat} {next : Int} {held P : List W2} {D : Int → Option Rec4} (h : Phase k0 nx0 heldA D0 c next held S P D) {j : Nat} (hj : j < 8) (hj' : j < k0 ∨ held.length ≤ j) : ∀ q ∈ P, q.1 ≠ ((j : Int) + 1) % 8 := by
  intro q hq he
  obtain ⟨i, i1, i2, i3⟩ := h.win q hq
  have := h.log.w.l.len
  omega

theorem Phase.same {c : Nat} {next : Int} {held P : List W2} {D : Int → Option Rec4} (h : Phase k0 nx0 heldA D0 c next held S P D) {j : Nat} (hj : j < 8) (hj' : held.length ≤ j) : D (((j : Int) + 1) % 8) = D0 (((j : Int) + 1) % 8) :=
  h.pend.same _ (by omega) (by omega) (h.free hj (.inr hj'))

theorem Phase.at {c : Nat} {next : Int} {held P : List W2} {D : Int → Option Rec4} (h : Phase k0 nx0 heldA D0 c next held S P D) {j : Nat} (hj : j < held.length) : D (((j : Int) + 1) % 8) = some ((held.getD j (0, ByteArray.empty)).1, (j : Int) + 1, tailI 0 (held.take j), (held.getD j (0, ByteArray.empty)).2) := by
  have := h.log.stand j hj
  rw [show (0 : Int) + 1 + j = j + 1 by omega] at this
  exact this

theorem Phase.marks {c : Nat} {next : Int} {held P : List W2} {D : Int → Option Rec4} (h : Phase k0 nx0 heldA D0 c next held S P D) : ∀ q ∈ P, markOf (D0 q.1) ≠ markOf (D q.1) := by
  intro q hq
  obtain ⟨j, j1, j2, j3⟩ := h.win q hq
  have h1 := h.old q.1 (h.pend.pend q hq).1 (h.pend.pend q hq).2.1
  have h2 := h.at j2
  have h3 := h.num j j1 j2
  rw [j3] at h1 ⊢
  rw [h2]
  show markOf (D0 (((j : Int) + 1) % 8)) ≠ (held.getD j (0, ByteArray.empty)).1
  omega
end

/-- What stands behind a crash of records that were appended behind safe ones. -/
theorem keeps_crash {c1 c : Nat} {next1 next : Int} {heldA held PA P : List W2} {DA D D2 : Int → Option Rec4} (hA : Phase 0 1 [] (fun _ => none) c1 next1 heldA zero8 PA DA) (h : Phase heldA.length next1 heldA DA c next held (flushS 48 zero8 PA) P D)
    (h2 : ∀ i : Int, 0 ≤ i → i < 8 → (D2 i = none ∨ D2 i = DA i ∨ D2 i = D i) ∧ ((∀ q ∈ P, q.1 ≠ i) → D2 i = DA i)) :
    ∃ p : Nat, heldA.length ≤ p ∧ p ≤ held.length ∧ chainR D2 8 0 0 = held.take p ∧ Stand D2 0 0 (held.take p) ∧ (p + 1 < 8 → D2 (((p : Int) + 2) % 8) = none ∨ (p + 1 < held.length ∧ D2 (((p : Int) + 2) % 8) = D (((p : Int) + 2) % 8))) := by
  have h8 := h.log.w.l.len
  have hk := h.k
  have hbare : ∀ j : Nat, heldA.length ≤ j → j < 8 → DA (((j : Int) + 1) % 8) = none := fun j j1 j2 => hA.same j2 j1
  have hbeh : ∀ j : Nat, held.length ≤ j → j < 8 → D2 (((j : Int) + 1) % 8) = none := fun j j1 j2 => by
    rw [(h2 _ (by omega) (by omega)).2 (h.free j2 (.inr j1))]
    exact hbare j (by omega) j2
  have hfirst : ∀ j : Nat, j < heldA.length → D2 (((j : Int) + 1) % 8) = D (((j : Int) + 1) % 8) := fun j j1 => by
    rw [(h2 _ (by omega) (by omega)).2 (h.free (by omega) (.inl j1)), h.keeps j j1]
  have hmid : ∀ j : Nat, heldA.length ≤ j → j < 8 → D2 (((j : Int) + 1) % 8) = none ∨ D2 (((j : Int) + 1) % 8) = D (((j : Int) + 1) % 8) := fun j j1 j2 => by
    rcases (h2 (((j : Int) + 1) % 8) (by omega) (by omega)).1 with e | e | e
    · exact .inl e
    · exact .inl (e.trans (hbare j j1 j2))
    · exact .inr e
  obtain ⟨p, p1, p2, p3, p4⟩ := chain_some (D := D2) held 8 0 0 (by omega) (fun j hj => by
      rw [show (0 : Int) + 1 + j = j + 1 by omega, Int.zero_add]
      by_cases hjk : j < heldA.length
      · rw [hfirst j hjk]; exact .inr (h.at hj)
      · rcases hmid j (by omega) (by omega) with e | e
        · exact .inl (stop_none e)
        · rw [e]; exact .inr (h.at hj)) (fun hl => stop_none (by rw [Int.zero_add]; exact hbeh _ (Nat.le_refl _) hl))
  refine ⟨p, ?_, p1, p2, p3, fun hp => ?_⟩
  · refine Nat.le_of_not_lt fun hp => ?_
    have := p4 (by omega)
    have hat := (hfirst p hp).trans (h.at (show p < held.length by omega))
    rw [Int.zero_add] at this
    exact this _ _ _ _ hat ⟨rfl, rfl⟩
  · rw [show (p : Int) + 2 = ((p + 1 : Nat) : Int) + 1 by omega]
    by_cases hl : p + 1 < held.length
    · by_cases hpk : p + 1 < heldA.length
      · exact .inr ⟨hl, hfirst _ hpk⟩
      · rcases hmid (p + 1) (by omega) hp with e | e
        · exact .inl e
        · exact .inr ⟨hl, e⟩
    · exact .inl (hbeh _ (by omega) hp)

theorem take_map {α β : Type} (f : α → β) (l : List α) (n : Nat) : (l.take n).map f = (l.map f).take n := by rw [List.map_take]

theorem p_WalKeeps {l more : List ByteArray} {keep : List Int} (hl : ∀ t ∈ l, t.size ≤ 281474976710656) (hlen : (l.length : Int) < 9223372036854775808) (hl2 : ∀ t ∈ more, t.size ≤ 281474976710656) (hlen2 : (more.length : Int) < 9223372036854775808) : F_law10_WalKeeps (l, more, keep, ()) () = some (true, ()) := by
  obtain ⟨c1, next1, heldA, PA, DA, ea, hA, hc1⟩ := e_appendedP l hl hlen
  have hB := hA.next (k := heldA.length) (Nat.le_refl _)
  rw [List.take_length] at hB
  obtain ⟨c, next, held, P, D, eb, h, hc⟩ := Keeps_loop6 (keep := keep) (x3 := heldA.map (·.2)) more hl2 hlen2 8 0 c1 next1 heldA [] DA rfl hB (by omega)
  have hlA := hB.log.w.l.len
  have hlH := h.log.w.l.len
  have hkH := h.k
  have hd := h.log.w.d
  have hS := h.log.w.s8
  rw [Fe_law10_WalKeeps]
  unfold tree_law10_WalKeeps
  rw [ea]
  simp only [Option.bind_some, Sum.elim_inr]
  rw [e_fixed10]
  simp only [Option.bind_some, Bool.not_true, cond_false]
  rw [cd_t (by rw [List.length_map]; omega), List.nil_append]
  rw [Int.natCast_zero] at eb
  rw [eb]
  simp only [Option.bind_some]
  rw [e_texts h.log.w.l (by decide)]
  simp only [Option.bind_some]
  rw [e_Texts (by rw [List.length_map]; omega), decide_eq_true rfl]
  simp only [Option.bind_some, Bool.not_true, cond_false]
  rw [e_Crash hd]
  simp only [Option.bind_some]
  obtain ⟨D2, hr, h2⟩ := h.pend.crash hS h.marks (c := fun k => (clampS 48 (keep.getD k 0)).toNat) (fun k => clampN (by decide))
  have hd2 : DInv 48 (keepS (fun k => (clampS 48 (keep.getD k 0)).toNat) 0 (flushS 48 zero8 PA) P) [] := hd.keep fun k => clampN (by decide)
  have hS2 : (keepS (fun k => (clampS 48 (keep.getD k 0)).toNat) 0 (flushS 48 zero8 PA) P).length = 8 := by rw [keepS_len]; exact hS
  revert hr hd2 hS2
  generalize keepS (fun k => (clampS 48 (keep.getD k 0)).toNat) 0 (flushS 48 zero8 PA) P = S2
  intro hr hd2 hS2
  have hnc := h.log.w.nc
  have hn1 := h.log.w.n1
  have hc900 : c ≤ 16 := by omega
  obtain ⟨g, hg, hgm, e1⟩ := open_reads (base := 0) (mark := 0) (B := c) hr hS2 (by simp) (by decide) (fun i h0 h1 => by
    have o := h.old i h0 h1
    have n := h.log.lt i h0 h1
    have hnx := h.nx
    rcases (h2 i h0 h1).1 with e | e | e
    · rw [e]; show (0 : Int) ≤ c; omega
    · rw [e]; omega
    · rw [e]; omega) (by omega) (by omega)
  obtain ⟨p, p1, p2, p3, p4, p5⟩ := keeps_crash hA h h2
  rw [p3] at e1
  have hpl : (held.take p).length = p := by rw [List.length_take]; omega
  have hI : LInv 8 0 (held.take p) := ⟨by decide, by decide, by decide, by decide, by omega⟩
  rw [e1]
  simp only [Option.bind_some, Sum.elim_inr]
  rw [e1]
  simp only [Option.bind_some, Sum.elim_inr]
  rw [e_texts hI (by decide)]
  simp only [Option.bind_some]
  rw [cd_f (by rw [List.length_map, List.length_map, hpl]; omega), e_begins (by rw [List.length_map]; omega), decide_eq_true ⟨by rw [List.length_map, List.length_map]; omega, by rw [List.length_map, hpl, take_map]⟩]
  simp only [Option.bind_some, Bool.not_true, cond_false]
  rw [e_texts hI (by decide)]
  simp only [Option.bind_some]
  rw [e_Texts (by rw [List.length_map]; omega), decide_eq_true rfl]
  simp only [Option.bind_some, Bool.not_true, cond_false]
  have hcl := h.log.last
  have hy : WLog c 0 0 (g + 1) (held.take p) S2 [] D2 := by
    refine ⟨⟨hI, hd2, hS2, Nat.zero_le _, by omega, by omega, by decide, by omega, fun q hq => h.log.w.hm q (List.mem_of_mem_take hq), by omega⟩, hr, ?_, p4, fun i h0 h1 => ?_⟩
    · unfold lastI at hcl ⊢; omega
    · by_cases hn : D2 i = none
      · rw [hn]; show (0 : Int) < g + 1; omega
      · have := hgm i h0 h1 hn; omega
  have hmay := hy.w.may (t := ByteArray.mk #[111, 110]) (by decide)
  have hp8 : p ≤ 8 := by omega
  have hlast : lastI 0 (held.take p) = p := by unfold lastI; omega
  rcases hy.e_append (by omega) (t := ByteArray.mk #[111, 110]) (by decide) with ⟨hm, happ⟩ | ⟨hm, happ⟩
  · have hp : p < 8 := by have := hmay.1 hm; omega
    have hz := (hy.append (by omega) hm).sync
    have hz0 := (hy.append (by omega) hm).w.d
    rw [happ]
    simp only [Option.bind_some]
    rw [e_Sync hz0]
    simp only [Option.bind_some]
    obtain ⟨g2, hg2, _, e2⟩ := open_reads (base := 0) (mark := 0) (B := c + 1) hz.reads hz.w.s8 (by simp) (by decide) (fun i h0 h1 => by have := hz.lt i h0 h1; omega) (by omega) (by omega)
    have hch : chainR (putD D2 (lastI 0 (held.take p) + 1) (g + 1, lastI 0 (held.take p) + 1, tailI 0 (held.take p), ByteArray.mk #[111, 110])) 8 0 0 = held.take p ++ [(g + 1, ByteArray.mk #[111, 110])] := by
      rw [chain_held _ 8 0 0 hz.stand (by rw [List.length_append, hpl, List.length_singleton]; omega), tailI_snoc, List.length_append, hpl, List.length_singleton]
      by_cases hp7 : p + 1 < 8
      · rw [chain_stop, List.append_nil]
        intro m k a' t hD hx
        rw [show (0 : Int) + ((p + 1 : Nat) : Int) + 1 = (p : Int) + 2 by omega] at hD
        unfold putD at hD
        rw [if_neg (by omega)] at hD
        rcases p5 hp7 with e | ⟨hl', e⟩
        · rw [e] at hD; cases hD
        · have hgm' := hgm (((p : Int) + 2) % 8) (by omega) (by omega) (by rw [hD]; simp)
          rw [e] at hD hgm'
          rw [show (p : Int) + 2 = ((p + 1 : Nat) : Int) + 1 by omega, h.at hl', tail_take 0 (show p < held.length by omega)] at hD
          rw [show (p : Int) + 2 = ((p + 1 : Nat) : Int) + 1 by omega, h.at hl'] at hgm'
          have n1 := h.num p p1 (by omega)
          have n2 := h.num (p + 1) (by omega) hl'
          have hgm'' : (held.getD (p + 1) (0, ByteArray.empty)).1 ≤ g := hgm'
          simp only [Option.some.injEq, Prod.mk.injEq] at hD
          omega
      · rw [show 8 - (p + 1) = 0 by omega]
        show _ ++ [] = _
        rw [List.append_nil]
    rw [hch] at e2
    rw [e2]
    simp only [Option.bind_some, Sum.elim_inr, cond_true]
    rw [cd_t (by rw [List.length_map, hpl]; omega), e_texts hI (by decide)]
    simp only [Option.bind_some]
    rw [show (true == decide ((((held.take p).map (·.2)).length : Int) < 8)) = true by rw [List.length_map, hpl, decide_eq_true (by omega)]; rfl]
    simp only [cond_true]
    rw [e_texts hz.w.l (by decide)]
    simp only [Option.bind_some]
    rw [e_Texts (by rw [List.length_map, List.length_append, hpl, List.length_singleton]; omega), decide_eq_true (by rw [List.map_append]; rfl)]
    rfl
  · have hp : p = 8 := by
      refine Nat.le_antisymm hp8 (Nat.le_of_not_lt fun hlt => hm (hmay.2 (by omega)))
    have hz := hy.sync
    rw [happ]
    simp only [Option.bind_some]
    rw [e_Sync hy.w.d]
    simp only [Option.bind_some]
    obtain ⟨g2, hg2, _, e2⟩ := open_reads (base := 0) (mark := 0) (B := c) hz.reads hz.w.s8 (by simp) (by decide) (fun i h0 h1 => by have := hz.lt i h0 h1; omega) (by omega) (by omega)
    rw [p3] at e2
    rw [e2]
    simp only [Option.bind_some, Sum.elim_inr, cond_false]
    rw [e_texts hI (by decide)]
    simp only [Option.bind_some]
    rw [show (false == decide ((((held.take p).map (·.2)).length : Int) < 8)) = true by rw [List.length_map, hpl, decide_eq_false (by omega)]; rfl]
    simp only [cond_true]
    rw [e_texts hI (by decide)]
    simp only [Option.bind_some]
    rw [e_Texts (by rw [List.length_map]; omega), decide_eq_true rfl]
    rfl
end Go.Proofs.Ytlfedmjjjbhnpaa.S2
