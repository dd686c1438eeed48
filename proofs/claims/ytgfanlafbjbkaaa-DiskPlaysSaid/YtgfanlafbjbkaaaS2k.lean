/-
  S2, eleventh part: append to a list of the frame's own; a literal of a slice.
-/
import Derived.Test.YtgfanlafbjbkaaaS2j
set_option linter.unusedVariables false
set_option linter.unusedSimpArgs false
namespace Go.Proofs.Ytgfanlafbjbkaaa.S2
open Go

theorem ownsRow_form {w : World} {e : TypeId} {sz n : Nat} {v : Value} {cells : List Value} (h : w.ownsRow 0 e sz v n cells) : ∃ ad cap, v = .slice (atG ad) n cap ∧ v.ownBlock = ad := by
  rcases h.2 with ⟨rfl, rfl⟩ | ⟨g, cap, cur, rfl, _⟩
  · exact ⟨none, 0, rfl, rfl⟩
  · exact ⟨some g, cap, rfl, rfl⟩

section
variable {P : Program} {w : World} {Z : Nat → Prop} {β : Loc} {m : Mem}

def Loc.lose (β : Loc) : Option (Nat × LK) → Loc
  | some (k, _) => β.put k .gone
  | none => β

theorem Loc.lose_old {β : Loc} {old : Option (Nat × LK)} {q : Nat} (h : ∃ l, old = some (q, l)) : β.lose old q = some .gone := by
  obtain ⟨l, rfl⟩ := h
  simp [Loc.lose, Loc.put]

theorem Loc.lose_new {β : Loc} {old : Option (Nat × LK)} {q : Nat} (h : ¬ ∃ l, old = some (q, l)) : β.lose old q = β q := by
  cases old with
  | none => rfl
  | some p =>
    obtain ⟨k, l⟩ := p
    simp only [Loc.lose, Loc.put]
    rw [if_neg]
    rintro rfl
    exact h ⟨l, rfl⟩

def goneOf : Option (Nat × LK) → List (Nat × Ob)
  | some (k, _) => [(k, .gone)]
  | none => []

theorem sets_gone {m : Mem} {old : Option (Nat × LK)} {d q : Nat} {o : Ob} :
    (q = d → (m.sets (goneOf old ++ [(d, o)])).get q = some o) ∧ (q ≠ d → (∃ l, old = some (q, l)) → (m.sets (goneOf old ++ [(d, o)])).get q = some .gone) ∧
    (q ≠ d → (¬ ∃ l, old = some (q, l)) → (m.sets (goneOf old ++ [(d, o)])).get q = m.get q) := by
  cases old with
  | none => refine ⟨fun h => by simp [goneOf, Mem.sets, Mem.get_set, h], fun _ h => by simp at h, fun h _ => by simp [goneOf, Mem.sets, Mem.get_set, h]⟩
  | some p =>
    obtain ⟨k, l⟩ := p
    refine ⟨fun h => by simp [goneOf, Mem.sets, Mem.get_set, h], fun h h' => ?_, fun h h' => ?_⟩
    · obtain ⟨l', h'⟩ := h'
      simp at h'
      simp [goneOf, Mem.sets, Mem.get_set, h, h'.1]
    · have hk : q ≠ k := fun e => h' ⟨l, by rw [e]⟩
      simp [goneOf, Mem.sets, Mem.get_set, h, hk]

/-- A row under a new name, the elder row (if any) gone. -/
theorem post_row (hm : MR w Z β m) {w' : World} {d : Nat} (hd : m.get d = none) {old : Option (Nat × LK)} (hold : ∀ k l, old = some (k, l) → β k = some l ∧ (∀ b, l ≠ .box b))
    {s v' : Value} {e : TypeId} {r : Row} {xs : List r.T} {cells : List Value} (h0 : 0 < r.size) (ho : w'.ownsRow 0 e r.size v' xs.length cells) (hg : w.grownBy w' s.ownBlock)
    (hs : ∀ b, s.ownBlock = some b → ∃ k l, old = some (k, l) ∧ l.own = some b) (hv : v'.ownBlock = s.ownBlock ∨ v'.ownBlock = some w.heap.size) (hr : ∀ A', Stays w w' (β.away Z) A' → RowsR w' A' r xs cells) (fp : List Nat) :
    PostE Z w β m ⟨.slw d, goneOf old ++ [(d, .row e r xs)], fp⟩ v' w' := by
  obtain ⟨ad, cap, hva, hvb⟩ := ownsRow_form ho
  subst hva
  have hdne : ∀ k l, old = some (k, l) → d ≠ k := by
    rintro k l h rfl
    obtain ⟨h1, _⟩ := hold _ _ h
    rw [hm.none hd] at h1
    cases h1
  have hown1 : ∀ b, (∃ q l, β.lose old q = some l ∧ l.own = some b) → β.owned b := by
    rintro b ⟨q, l, hq, hb⟩
    by_cases hex : ∃ l, old = some (q, l)
    · rw [Loc.lose_old hex] at hq
      cases hq; cases hb
    · rw [Loc.lose_new hex] at hq
      exact ⟨q, l, hq, hb⟩
  have hblk : ∀ b, b < w.heap.size → some b ≠ s.ownBlock → w'.heap[b]? = w.heap[b]? := hg.block
  have hstep : Step w w' β ((β.lose old).put d (.row ad cap xs.length r.size e)) := by
    refine ⟨hg.os, hg.tape, hg.output, hg.size, fun b hb hn => hblk b hb fun h => ?_, ?_, ?_⟩
    · obtain ⟨k, l, h1, h2⟩ := hs b h.symm
      exact hn ⟨k, l, (hold k l h1).1, h2⟩
    · rintro b ⟨q, l, hq, hb⟩
      simp only [Loc.put] at hq
      split at hq
      · cases hq
        simp only [LK.own] at hb
        rw [← hvb] at hb
        rcases hv with h | h
        · rw [h] at hb
          obtain ⟨k, l, h1, h2⟩ := hs b hb
          exact .inl ⟨k, l, (hold k l h1).1, h2⟩
        · rw [h] at hb
          cases hb
          exact .inr (Nat.le_refl _)
      · exact .inl (hown1 b ⟨q, l, hq, hb⟩)
    · intro q l hq
      have hqd : q ≠ d := by
        rintro rfl
        rw [hm.none hd] at hq
        cases hq
      simp only [Loc.put, if_neg hqd]
      by_cases hex : ∃ l, old = some (q, l)
      · rw [Loc.lose_old hex]
        obtain ⟨l', hl'⟩ := hex
        obtain ⟨h1, h2⟩ := hold _ _ hl'
        rw [hq] at h1
        cases h1
        exact ⟨_, rfl, .gone _ h2⟩
      · rw [Loc.lose_new hex]
        exact ⟨l, hq, .refl l⟩
  refine ⟨_, hstep, ?_, ?_⟩
  · refine hm.update (fun q => q = d ∨ ∃ l, old = some (q, l)) hstep (fun q hq => ?_) (fun q l b hq hl hb => ?_) (fun q o hq hgq => ?_) (fun q l hq hl => ?_) (fun q l b hq hl hb => ?_)
    · rw [not_or] at hq
      refine ⟨?_, ?_⟩
      · simp only [Loc.put, if_neg hq.1]
        exact Loc.lose_new hq.2
      · exact sets_gone.2.2 hq.1 hq.2
    · rw [not_or] at hq
      refine hblk b (hm.lt ⟨q, l, hl, hb⟩) fun h => ?_
      obtain ⟨k, l', h1, h2⟩ := hs b h.symm
      have := hm.inj q k l l' b hl (hold k l' h1).1 hb h2
      subst this
      exact hq.2 ⟨l', h1⟩
    · by_cases hqd : q = d
      · rw [sets_gone.1 hqd] at hgq
        cases hgq
        exact ⟨.row ad cap xs.length r.size e, by simp only [Loc.put, if_pos hqd], rfl, rfl, h0, rfl, cells, ho, hr _ hstep.stays⟩
      · have hex : ∃ l, old = some (q, l) := hq.resolve_left hqd
        rw [sets_gone.2.1 hqd hex] at hgq
        cases hgq
        refine ⟨.gone, ?_, trivial⟩
        simp only [Loc.put, if_neg hqd]
        exact Loc.lose_old hex
    · by_cases hqd : q = d
      · exact ⟨_, sets_gone.1 hqd⟩
      · have hex : ∃ l, old = some (q, l) := hq.resolve_left hqd
        exact ⟨_, sets_gone.2.1 hqd hex⟩
    · by_cases hqd : q = d
      · simp only [Loc.put, if_pos hqd] at hl
        cases hl
        simp only [LK.own] at hb
        rw [← hvb] at hb
        have hcase : (∃ k l, old = some (k, l) ∧ l.own = some b) ∨ b = w.heap.size := by
          rcases hv with h | h
          · rw [h] at hb; exact .inl (hs b hb)
          · rw [h] at hb; cases hb; exact .inr rfl
        refine ⟨fun hz => ?_, fun k' l' hk' hb' => ?_⟩
        · rcases hcase with ⟨k, l, h1, h2⟩ | h
          · exact hm.apart b ⟨k, l, (hold k l h1).1, h2⟩ hz
          · exact absurd (hm.old b hz) (by omega)
        · simp only [Loc.put] at hk'
          split at hk'
          · rename_i h; exact h.trans hqd.symm
          · exfalso
            by_cases hne : ∃ l, old = some (k', l)
            · rw [Loc.lose_old hne] at hk'
              cases hk'; cases hb'
            · rw [Loc.lose_new hne] at hk'
              rcases hcase with ⟨k, l, h1, h2⟩ | h
              · have := hm.inj k' k l' l b hk' (hold k l h1).1 hb' h2
                subst this
                exact hne ⟨l, h1⟩
              · exact absurd (hm.lt ⟨k', l', hk', hb'⟩) (by omega)
      · have hex : ∃ l, old = some (q, l) := hq.resolve_left hqd
        simp only [Loc.put, if_neg hqd] at hl
        rw [Loc.lose_old hex] at hl
        cases hl
        cases hb
  · simp only [SV.R]
    refine ⟨.row ad cap xs.length r.size e, by simp [Loc.put], atG ad, cap, rfl, ?_, by omega, by omega, fun _ => by simp [atG]⟩
    rcases ho.2 with ⟨h1, h2⟩ | ⟨g, cap', cur, h1, _, _, h2, _⟩
    · omega
    · simp at h1; omega

theorem appx_sound (hm : MR w Z β m) {d : Nat} {e : TypeId} {r : Row} {bytes : Nat} {s x : SV} {ef : Eff} (h : appx d e r bytes s x m some = some ef) {t ty : TypeId} {i : TypeInfo} {z : Value} (ht : P.underlying t = some (.slice e)) (hi : P.info? e = some i)
    (hz : i.zero = some z) (hzs : z.cells.size = i.size) (hsz : r.size = i.size) (h0 : 0 < r.size) (hby : i.bytes = bytes) (hb0 : 0 < i.bytes) {vs vx : Value} (hs : s.R w (β.away Z) β vs) (hx : x.R w (β.away Z) β vx) :
    ∃ v' w', (Builtin.append_ #[t, t] ty #[vs, vx]).run P w = .ok v' w' ∧ PostE Z w β m ef v' w' := by
  subst hby
  unfold appx at h
  split at h
  · cases h
  · rename_i ys hys
    obtain ⟨cells, hat⟩ := listOf_at hm h0 hys hx
    have hcl : cells.length = ys.length * r.size := by obtain ⟨_, _, _, _, hl, _⟩ := hat; exact hl
    have hrr : RowsR w (β.away Z) r ys cells := by obtain ⟨_, _, _, _, _, _, _, hr⟩ := hat; exact hr
    split at h
    · split at h
      · rename_i hfree
        obtain ⟨hbd, h⟩ := chk_some h
        cases h
        simp only [SV.R] at hs
        subst hs
        obtain ⟨v', w', h1, h2, h3, h4⟩ := run_append_list (P := P) (ty := ty) ht hi hz hzs hsz h0 hb0 (World.ownsRow_nil w 0 e r.size) hat (by simpa using hbd)
        simp only [Nat.zero_add, List.nil_append] at h2
        refine ⟨v', w', h1, ?_⟩
        exact post_row hm (d := site d) (by simpa using hfree) (old := none) (by intro k l h; cases h) h0 h2 h3 (by intro b hb; simp [Value.ownBlock] at hb) h4 (fun A' hst => hrr.stays hst) _
      · cases h
    · rename_i k
      split at h
      · rename_i e' r' xs hk
        split at h
        · rename_i hr'
          subst hr'
          split at h
          · rename_i hcond
            obtain ⟨rfl, hne, hfree⟩ := hcond
            obtain ⟨hbd, h⟩ := chk_some h
            cases h
            simp only [SV.R] at hs
            obtain ⟨l, hl, hp⟩ := hs
            obtain ⟨l', hl', hob⟩ := hm.obs k _ hk
            rw [hl] at hl'; cases hl'
            cases l with
            | row ad cap n sz e'' =>
              obtain ⟨rfl, rfl, _, rfl, cells0, ho, hr0⟩ := hob
              obtain ⟨A', c, rfl, hlc, hoff, hcap, ha⟩ := hp
              have hA : A' = atG ad := by rw [ha (.inr rfl)]; simp [atG]
              obtain rfl : c = cap := by omega
              subst hA
              obtain ⟨v', w', h1, h2, h3, h4⟩ := run_append_list (P := P) (ty := ty) ht hi hz hzs hsz h0 hb0 ho hat (by simpa using hbd)
              refine ⟨v', w', h1, ?_⟩
              have hlen2 : (castRow rfl xs ++ ys).length = xs.length + ys.length := by simp [castRow]
              exact post_row hm (d := site d) (by simpa using hfree) (old := some (k, .row ad c xs.length r'.size e'')) (by intro k' l h; cases h; exact ⟨hl, by intro b hb; cases hb⟩) (xs := castRow rfl xs ++ ys) h0 (by rw [hlen2]; exact h2) h3
                (by intro b hb; exact ⟨k, _, rfl, by simpa [Value.ownBlock, atG, LK.own] using (by cases ad <;> simp [Value.ownBlock, atG] at hb ⊢; exact hb)⟩) h4
                (fun A' hst => RowsR.append (hr0.stays hst) ho.1 (hrr.stays hst) hcl) (k :: site d :: x.keys1)
            | _ => exact hob.elim
          · cases h
        · cases h
      · cases h
    · rename_i k off len
      split at h
      · rename_i e' r' xs hk
        split at h
        · rename_i hr'
          subst hr'
          split at h
          · rename_i hcond
            obtain ⟨rfl, rfl, hne, hfree⟩ := hcond
            obtain ⟨hlen, h⟩ := chk_some h
            obtain ⟨hbd, h⟩ := chk_some h
            cases h
            simp only [decide_eq_true_eq] at hlen
            simp only [SV.R] at hs
            obtain ⟨l, hl, hp⟩ := hs
            obtain ⟨l', hl', hob⟩ := hm.obs k _ hk
            rw [hl] at hl'; cases hl'
            cases l with
            | row ad cap n sz e'' =>
              obtain ⟨rfl, rfl, _, rfl, cells0, ho, hr0⟩ := hob
              obtain ⟨A', c, rfl, hlc, hoff, hcap, ha⟩ := hp
              have hA : A' = atG ad := by rw [ha (.inr rfl)]; simp [atG]
              obtain rfl : c = cap := by omega
              subst hA
              have ho' := ownsRow_take ho hlen
              obtain ⟨v', w', h1, h2, h3, h4⟩ := run_append_list (P := P) (ty := ty) ht hi hz hzs hsz h0 hb0 ho' hat (by simpa using hbd)
              refine ⟨v', w', h1, ?_⟩
              have hlt : ((castRow rfl xs).take len).length = len := by rw [List.length_take]; simp only [castRow]; omega
              have hlen2 : ((castRow rfl xs).take len ++ ys).length = len + ys.length := by rw [List.length_append, hlt]
              exact post_row hm (d := site d) (by simpa using hfree) (old := some (k, .row ad c xs.length r'.size e'')) (by intro k' l h; cases h; exact ⟨hl, by intro b hb; cases hb⟩) (xs := (castRow rfl xs).take len ++ ys) h0 (by rw [hlen2]; exact h2) h3
                (by intro b hb; exact ⟨k, _, rfl, by simpa [Value.ownBlock, atG, LK.own] using (by cases ad <;> simp [Value.ownBlock, atG] at hb ⊢; exact hb)⟩) h4
                (fun A' hst => RowsR.append ((hr0.stays hst).take len) (by rw [hlt]; exact ho'.1) (hrr.stays hst) hcl) (k :: site d :: x.keys1)
            | _ => exact hob.elim
          · cases h
        · cases h
      · cases h
    · cases h
end
end Go.Proofs.Ytgfanlafbjbkaaa.S2
