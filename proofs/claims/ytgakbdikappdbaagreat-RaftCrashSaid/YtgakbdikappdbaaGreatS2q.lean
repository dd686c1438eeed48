/- S2: a second, plain meaning of the model's code, and that the model does what it says. -/
import Derived.Test.YtgakbdikappdbaaGreatS2j
import Derived.Lib.AppendStr
import Derived.Laws.Tables
import Derived.Laws.MakeOwn
import Derived.MapKept
import Derived.Lib.Builder
import Derived.Lib.UnsafeStr
set_option linter.unusedVariables false
set_option linter.unusedSimpArgs false
namespace Go.Proofs.YtgakbdikappdbaaGreat.S2
open Go
section
variable {P : Program} {w : World} {Z : Nat → Prop} {β : Loc} {m : Mem}
def Loc.lose (β : Loc) : Option (Nat × LK) → Loc
  | some (k, _) => β.put k .gone
  | none => β
theorem Loc.lose_old {β : Loc} {old : Option (Nat × LK)} {q : Nat} (h : ∃ l, old = some (q, l)) : β.lose old q = some .gone := by
  obtain ⟨l, rfl⟩ := h
  simp [Loc.lose, Loc.put]
theorem Loc.lose_new {β : Loc} {old : Option (Nat × LK)} {q : Nat} (h : ¬ ∃ l, old = some (q, l)) : β.lose old q = β q := by
  cases old with
  | none => rfl
  | some p =>
    obtain ⟨k, l⟩ := p
    simp only [Loc.lose, Loc.put]
    rw [if_neg]
    rintro rfl
    exact h ⟨l, rfl⟩
def goneOf : Option (Nat × LK) → List (Nat × Ob)
  | some (k, _) => [(k, .gone)]
  | none => []
theorem sets_gone {m : Mem} {old : Option (Nat × LK)} {d q : Nat} {o : Ob} :
    (q = d → (m.sets (goneOf old ++ [(d, o)])).get q = some o) ∧ (q ≠ d → (∃ l, old = some (q, l)) → (m.sets (goneOf old ++ [(d, o)])).get q = some .gone) ∧
    (q ≠ d → (¬ ∃ l, old = some (q, l)) → (m.sets (goneOf old ++ [(d, o)])).get q = m.get q) := by
  cases old with
  | none => refine ⟨fun h => by simp [goneOf, Mem.sets, Mem.get_set, h], fun _ h => by simp at h, fun h _ => by simp [goneOf, Mem.sets, Mem.get_set, h]⟩
  | some p =>
    obtain ⟨k, l⟩ := p
    refine ⟨fun h => by simp [goneOf, Mem.sets, Mem.get_set, h], fun h h' => ?_, fun h h' => ?_⟩
    · obtain ⟨l', h'⟩ := h'
      simp at h'
      simp [goneOf, Mem.sets, Mem.get_set, h, h'.1]
    · have hk : q ≠ k := fun e => h' ⟨l, by rw [e]⟩
      simp [goneOf, Mem.sets, Mem.get_set, h, hk]
theorem post_row (hm : MR w Z β m) {w' : World} {d : Nat} (hd : m.get d = none) {old : Option (Nat × LK)} (hold : ∀ k l, old = some (k, l) → β k = some l ∧ (∀ b, l ≠ .box b))
    {bo : Option Nat} {ad : Option RowAt} {A' : Option Addr} {cap : Nat} {e : TypeId} {r : Row} {xs : List r.T} {cells : List Value} (h0 : 0 < r.size) (ho : OwnsAt w' e r.size ad xs.length cap cells) (hA' : cap ≠ 0 → A' = atG ad) (hg : w.grownBy w' bo)
    (hs : ∀ b, bo = some b → ∃ k l, old = some (k, l) ∧ l.own = some b) (hv : ∀ b, ad.map (·.g) = some b → bo = some b ∨ w.heap.size ≤ b) (hr : ∀ A', Stays w w' (β.away Z) A' → RowsR w' A' r xs cells) (fp : List Nat) :
    PostE Z w β m ⟨.slw d, goneOf old ++ [(d, .row e r xs)], fp⟩ (.slice A' xs.length cap) w' := by
  have hdne : ∀ k l, old = some (k, l) → d ≠ k := by
    rintro k l h rfl
    obtain ⟨h1, _⟩ := hold _ _ h
    rw [hm.none hd] at h1
    cases h1
  have hown1 : ∀ b, (∃ q l, β.lose old q = some l ∧ l.own = some b) → β.owned b := by
    rintro b ⟨q, l, hq, hb⟩
    by_cases hex : ∃ l, old = some (q, l)
    · rw [Loc.lose_old hex] at hq
      cases hq; cases hb
    · rw [Loc.lose_new hex] at hq
      exact ⟨q, l, hq, hb⟩
  have hblk : ∀ b, b < w.heap.size → some b ≠ bo → w'.heap[b]? = w.heap[b]? := hg.block
  have hstep : Step w w' β ((β.lose old).put d (.row ad cap xs.length r.size e)) := by
    refine ⟨hg.os, hg.tape, hg.output, hg.size, fun b hb hn => hblk b hb fun h => ?_, ?_, ?_⟩
    · obtain ⟨k, l, h1, h2⟩ := hs b h.symm
      exact hn ⟨k, l, (hold k l h1).1, h2⟩
    · rintro b ⟨q, l, hq, hb⟩
      simp only [Loc.put] at hq
      split at hq
      · cases hq
        simp only [LK.own] at hb
        rcases hv b hb with h | h
        · obtain ⟨k, l, h1, h2⟩ := hs b h
          exact .inl ⟨k, l, (hold k l h1).1, h2⟩
        · exact .inr h
      · exact .inl (hown1 b ⟨q, l, hq, hb⟩)
    · intro q l hq
      have hqd : q ≠ d := by
        rintro rfl
        rw [hm.none hd] at hq
        cases hq
      simp only [Loc.put, if_neg hqd]
      by_cases hex : ∃ l, old = some (q, l)
      · rw [Loc.lose_old hex]
        obtain ⟨l', hl'⟩ := hex
        obtain ⟨h1, h2⟩ := hold _ _ hl'
        rw [hq] at h1
        cases h1
        exact ⟨_, rfl, .gone _ h2⟩
      · rw [Loc.lose_new hex]
        exact ⟨l, hq, .refl l⟩
  refine ⟨_, hstep, ?_, ?_⟩
  · refine hm.update (fun q => q = d ∨ ∃ l, old = some (q, l)) hstep (fun q hq => ?_) (fun q l b hq hl hb => ?_) (fun q o hq hgq => ?_) (fun q l hq hl => ?_) (fun q l b hq hl hb => ?_)
    · rw [not_or] at hq
      refine ⟨?_, ?_⟩
      · simp only [Loc.put, if_neg hq.1]
        exact Loc.lose_new hq.2
      · exact sets_gone.2.2 hq.1 hq.2
    · rw [not_or] at hq
      refine hblk b (hm.lt ⟨q, l, hl, hb⟩) fun h => ?_
      obtain ⟨k, l', h1, h2⟩ := hs b h.symm
      have := hm.inj q k l l' b hl (hold k l' h1).1 hb h2
      subst this
      exact hq.2 ⟨l', h1⟩
    · by_cases hqd : q = d
      · rw [sets_gone.1 hqd] at hgq
        cases hgq
        exact ⟨.row ad cap xs.length r.size e, by simp only [Loc.put, if_pos hqd], rfl, rfl, h0, rfl, cells, ho, hr _ hstep.stays⟩
      · have hex : ∃ l, old = some (q, l) := hq.resolve_left hqd
        rw [sets_gone.2.1 hqd hex] at hgq
        cases hgq
        refine ⟨.gone, ?_, trivial⟩
        simp only [Loc.put, if_neg hqd]
        exact Loc.lose_old hex
    · by_cases hqd : q = d
      · exact ⟨_, sets_gone.1 hqd⟩
      · have hex : ∃ l, old = some (q, l) := hq.resolve_left hqd
        exact ⟨_, sets_gone.2.1 hqd hex⟩
    · by_cases hqd : q = d
      · simp only [Loc.put, if_pos hqd] at hl
        cases hl
        simp only [LK.own] at hb
        have hcase : (∃ k l, old = some (k, l) ∧ l.own = some b) ∨ w.heap.size ≤ b := (hv b hb).imp (hs b) id
        refine ⟨fun hz => ?_, fun k' l' hk' hb' => ?_⟩
        · rcases hcase with ⟨k, l, h1, h2⟩ | h
          · exact hm.apart b ⟨k, l, (hold k l h1).1, h2⟩ hz
          · exact absurd (hm.old b hz) (by omega)
        · simp only [Loc.put] at hk'
          split at hk'
          · rename_i h; exact h.trans hqd.symm
          · exfalso
            by_cases hne : ∃ l, old = some (k', l)
            · rw [Loc.lose_old hne] at hk'
              cases hk'; cases hb'
            · rw [Loc.lose_new hne] at hk'
              rcases hcase with ⟨k, l, h1, h2⟩ | h
              · have := hm.inj k' k l' l b hk' (hold k l h1).1 hb' h2
                subst this
                exact hne ⟨l, h1⟩
              · exact absurd (hm.lt ⟨k', l', hk', hb'⟩) (by omega)
      · have hex : ∃ l, old = some (q, l) := hq.resolve_left hqd
        simp only [Loc.put, if_neg hqd] at hl
        rw [Loc.lose_old hex] at hl
        cases hl
        cases hb
  · simp only [SV.R]
    exact ⟨.row ad cap xs.length r.size e, by simp [Loc.put], A', cap, rfl, ho.cap_le, by omega, by omega, fun h => by rw [hA' h]; cases ad <;> simp [atG]⟩
theorem post_row0 (hm : MR w Z β m) {w' : World} {d : Nat} (hd : m.get d = none) {old : Option (Nat × LK)} (hold : ∀ k l, old = some (k, l) → β k = some l ∧ (∀ b, l ≠ .box b))
    {s v' : Value} {e : TypeId} {r : Row} {xs : List r.T} {cells : List Value} (h0 : 0 < r.size) (ho : w'.ownsRow 0 e r.size v' xs.length cells) (hg : w.grownBy w' s.ownBlock)
    (hs : ∀ b, s.ownBlock = some b → ∃ k l, old = some (k, l) ∧ l.own = some b) (hv : v'.ownBlock = s.ownBlock ∨ v'.ownBlock = some w.heap.size) (hr : ∀ A', Stays w w' (β.away Z) A' → RowsR w' A' r xs cells) (fp : List Nat) :
    PostE Z w β m ⟨.slw d, goneOf old ++ [(d, .row e r xs)], fp⟩ v' w' := by
  obtain ⟨ad, cap, rfl, ho', hb⟩ := OwnsAt.of_row ho
  refine post_row hm hd hold h0 ho' (fun _ => rfl) hg hs (fun b h => ?_) hr fp
  rw [← hb] at h
  rcases hv with h' | h'
  · rw [h'] at h; exact .inl h
  · rw [h'] at h; cases h; exact .inr (Nat.le_refl _)
theorem ownsRow_take {w : World} {e : TypeId} {sz cap n g : Nat} {cells : List Value} (h : w.ownsRow 0 e sz (.slice (some ⟨g, 0, none⟩) n cap) n cells) {k : Nat} (hk : k ≤ n) : w.ownsRow 0 e sz (.slice (some ⟨g, 0, none⟩) k cap) k (cells.take (k * sz)) := by
  obtain ⟨hl, h⟩ := h
  have hle : k * sz ≤ n * sz := Nat.mul_le_mul_right _ hk
  refine ⟨by rw [List.length_take, hl, Nat.min_eq_left hle], ?_⟩
  rcases h with ⟨hv, h0⟩ | ⟨g, cap', cur, hv, hg, hh, hnc, hcm, hcs, hcur⟩
  · simp at hv
  · simp at hv
    refine .inr ⟨g, cap', cur, by simp [hv], hg, hh, by omega, hcm, hcs, ?_⟩
    rw [← hcur, List.take_take, Nat.min_eq_left hle]
theorem appx_gen (hm : MR w Z β m) {d : Nat} {e : TypeId} {r : Row} {bytes : Nat} {s x : SV} {ef : Eff} (h : appx d e r bytes s x m some = some ef) {t t2 ty : TypeId} (h0 : 0 < r.size) {vs vx : Value} (hs : s.R w (β.away Z) β vs)
    (hall : ∀ ys, listOf e r x m = some ys → ∃ cells : List Value, cells.length = ys.length * r.size ∧ RowsR w (β.away Z) r ys cells ∧
      ∀ {ad : Option RowAt} {n c0 : Nat} {A0 : Option Addr} {xs : List Value}, OwnsAt w e r.size ad n c0 xs → (c0 ≠ 0 → A0 = atG ad) → (n + ys.length) * bytes ≤ 140737488355328 →
        ∃ ad' A' c' w', (Builtin.append_ #[t, t2] ty #[.slice A0 n c0, vx]).run P w = .ok (.slice A' (n + ys.length) c') w' ∧ (c' ≠ 0 → A' = atG ad') ∧ OwnsAt w' e r.size ad' (n + ys.length) c' (xs ++ cells) ∧ w.grownBy w' (ad.map (·.g)) ∧
          (∀ b, ad'.map (·.g) = some b → ad.map (·.g) = some b ∨ w.heap.size ≤ b)) :
    ∃ v' w', (Builtin.append_ #[t, t2] ty #[vs, vx]).run P w = .ok v' w' ∧ PostE Z w β m ef v' w' := by
  unfold appx at h
  split at h
  · cases h
  · rename_i ys hys
    obtain ⟨cells, hcl, hrr, hrun⟩ := hall ys hys
    split at h
    · split at h
      · rename_i hfree
        obtain ⟨hbd, h⟩ := chk_some h
        cases h
        simp only [SV.R] at hs
        subst hs
        obtain ⟨ad', A', c', w', h1, hA1, h2, h3, h4⟩ := hrun (ad := none) (A0 := none) (n := 0) (c0 := 0) (xs := []) ⟨by simp, rfl, rfl⟩ (fun h => rfl) (by simpa using hbd)
        simp only [Nat.zero_add, List.nil_append] at h1 h2
        refine ⟨_, w', h1, ?_⟩
        exact post_row hm (d := site d) (by simpa using hfree) (old := none) (by intro k l h; cases h) h0 h2 hA1 h3 (by intro b hb; simp at hb) h4 (fun A' hst => hrr.stays hst) _
      · cases h
    · rename_i k
      split at h
      · rename_i e' r' xs hk
        split at h
        · rename_i hr'
          subst hr'
          split at h
          · rename_i hcond
            obtain ⟨rfl, hne, hfree⟩ := hcond
            obtain ⟨hbd, h⟩ := chk_some h
            cases h
            simp only [SV.R] at hs
            obtain ⟨l, hl, hp⟩ := hs
            obtain ⟨l', hl', hob⟩ := hm.obs k _ hk
            rw [hl] at hl'; cases hl'
            cases l with
            | row ad cap n sz e'' =>
              obtain ⟨rfl, rfl, _, rfl, cells0, ho, hr0⟩ := hob
              obtain ⟨A', c, rfl, hlc, hoff, hcap, ha⟩ := hp
              obtain rfl : c = cap := by omega
              obtain ⟨ad', A1, c', w', h1, hA1, h2, h3, h4⟩ := hrun ho (A0 := A') (fun h => by rw [ha h]; cases ad <;> simp [atG]) (by simpa using hbd)
              have hlen2 : (castRow rfl xs ++ ys).length = xs.length + ys.length := by simp [castRow]
              rw [← hlen2] at h1 h2
              refine ⟨_, w', h1, ?_⟩
              exact post_row hm (d := site d) (by simpa using hfree) (old := some (k, .row ad c xs.length r'.size e'')) (by intro k' l h; cases h; exact ⟨hl, by intro b hb; cases hb⟩) (xs := castRow rfl xs ++ ys) h0 h2 hA1 h3
                (by intro b hb; exact ⟨k, _, rfl, hb⟩) h4
                (fun A' hst => RowsR.append (hr0.stays hst) ho.1 (hrr.stays hst) hcl) (k :: site d :: x.keys1)
            | _ => exact hob.elim
          · cases h
        · cases h
      · cases h
    · rename_i k off len
      split at h
      · rename_i e' r' xs hk
        split at h
        · rename_i hr'
          subst hr'
          split at h
          · rename_i hcond
            obtain ⟨rfl, hne, hfree⟩ := hcond
            obtain ⟨hlen, h⟩ := chk_some h
            obtain ⟨hbd, h⟩ := chk_some h
            cases h
            simp only [decide_eq_true_eq] at hlen
            simp only [SV.R] at hs
            obtain ⟨l, hl, hp⟩ := hs
            obtain ⟨l', hl', hob⟩ := hm.obs k _ hk
            rw [hl] at hl'; cases hl'
            cases l with
            | row ad cap n sz e'' =>
              obtain ⟨rfl, rfl, _, rfl, cells0, ho, hr0⟩ := hob
              obtain ⟨A', c, rfl, hlc, hoff, hcap, ha⟩ := hp
              have ho' := ho.cut (off := off) (len := len) (by omega)
              obtain rfl : c = cap - off := by omega
              obtain ⟨ad', A1, c', w', h1, hA1, h2, h3, h4⟩ := hrun ho' (A0 := A') (fun h => by rw [ha h]; cases ad <;> simp [atG]) (by simpa using hbd)
              have hlt : (((castRow rfl xs).drop off).take len).length = len := by rw [List.length_take, List.length_drop]; simp only [castRow]; omega
              have hlen2 : (((castRow rfl xs).drop off).take len ++ ys).length = len + ys.length := by rw [List.length_append, hlt]
              rw [← hlen2] at h1 h2
              refine ⟨_, w', h1, ?_⟩
              exact post_row hm (d := site d) (by simpa using hfree) (old := some (k, .row ad cap xs.length r'.size e'')) (by intro k' l h; cases h; exact ⟨hl, by intro b hb; cases hb⟩) (xs := ((castRow rfl xs).drop off).take len ++ ys) h0 h2 hA1 h3
                (by intro b hb; exact ⟨k, _, rfl, by cases ad with | none => simp at hb | some g => simpa [LK.own] using hb⟩) (fun b hb => (h4 b hb).imp (fun h => by cases ad with | none => simp at h | some g => simpa using h) id)
                (fun A' hst => RowsR.append (((hr0.stays hst).drop off).take len) (by rw [hlt]; exact ho'.1) (hrr.stays hst) hcl) (k :: site d :: x.keys1)
            | _ => exact hob.elim
          · cases h
        · cases h
      · cases h
    · cases h
theorem appx_sound (hm : MR w Z β m) {d : Nat} {e : TypeId} {r : Row} {bytes : Nat} {s x : SV} {ef : Eff} (h : appx d e r bytes s x m some = some ef) {t ty : TypeId} {i : TypeInfo} {z : Value} (ht : P.underlying t = some (.slice e)) (hi : P.info? e = some i)
    (hz : i.zero = some z) (hzs : z.cells.size = i.size) (hsz : r.size = i.size) (h0 : 0 < r.size) (hby : i.bytes = bytes) (hb0 : 0 < i.bytes) {vs vx : Value} (hs : s.R w (β.away Z) β vs) (hx : x.R w (β.away Z) β vx) :
    ∃ v' w', (Builtin.append_ #[t, t] ty #[vs, vx]).run P w = .ok v' w' ∧ PostE Z w β m ef v' w' := by
  subst hby
  refine appx_gen hm h h0 hs fun ys hys => ?_
  obtain ⟨cells, hat⟩ := listOf_at hm h0 hys hx
  have hcl : cells.length = ys.length * r.size := by obtain ⟨_, _, _, _, hl, _⟩ := hat; exact hl
  have hrr : RowsR w (β.away Z) r ys cells := by obtain ⟨_, _, _, _, _, _, _, hr⟩ := hat; exact hr
  exact ⟨cells, hcl, hrr, fun ho hA hb => run_append_list (P := P) (ty := ty) ht hi hz hzs hsz h0 hb0 ho hA hat hb⟩
theorem run_append_str {t u ty e : TypeId} {i : TypeInfo} (ht : P.underlying t = some (.slice e)) (hu : P.underlying u = some .string) (hi : P.info? e = some i) (hz : i.zero = some (.int .u8 0)) (hsize : i.size = 1) (hby : i.bytes = 1)
    {ad : Option RowAt} {n c0 : Nat} {A0 : Option Addr} {xs : List Value} (ho : OwnsAt w e 1 ad n c0 xs) (hA : c0 ≠ 0 → A0 = atG ad) (s : ByteArray) (hbytes : n + s.size ≤ 140737488355328) :
    ∃ ad' A' c' w', (Builtin.append_ #[t, u] ty #[.slice A0 n c0, .string s]).run P w = .ok (.slice A' (n + s.size) c') w' ∧ (c' ≠ 0 → A' = atG ad') ∧ OwnsAt w' e 1 ad' (n + s.size) c' (xs ++ Lib.strCells s) ∧ w.grownBy w' (ad.map (·.g)) ∧
      (∀ b, ad'.map (·.g) = some b → ad.map (·.g) = some b ∨ w.heap.size ≤ b) := by
  have hxl : xs.length = n := by simpa using ho.1
  have hnc : n ≤ c0 := ho.cap_le
  have hsl := Lib.strCells_length s
  have hlen : (xs ++ Lib.strCells s).length = (n + s.size) * 1 := by rw [List.length_append, hxl, hsl, Nat.mul_one]
  have hf := Lib.run_firstCells_string (P := P) w 1 s
  have h63 : n + s.size ≤ maxLen := by simp only [maxLen]; omega
  have grow : ∀ b, A0 = some b → c0 < n + s.size → (∀ (j : Nat) v, xs[j]? = some v → w.cell? (b.add j) = some v) →
      ∃ ad' A' c' w', (Builtin.append_ #[t, u] ty #[.slice A0 n c0, .string s]).run P w = .ok (.slice A' (n + s.size) c') w' ∧ (c' ≠ 0 → A' = atG ad') ∧ OwnsAt w' e 1 ad' (n + s.size) c' (xs ++ Lib.strCells s) ∧ w.grownBy w' (ad.map (·.g)) ∧
        (∀ b, ad'.map (·.g) = some b → ad.map (·.g) = some b ∨ w.heap.size ≤ b) := by
    intro b hb hlt hcells
    subst hb
    have hr := Lib.run_append_grow_string (P := P) w t u ty e i (.int .u8 0) ht hu hi hz b n c0 xs (by rw [hsize, Nat.mul_one]; exact hxl) hcells s hlt (by omega) (by rw [hby]; exact growslice_fits (by omega) (by omega))
    have hge := grownCap_ge w (n + s.size) c0 e
    have hcm : grownCap w (n + s.size) c0 e ≤ maxLen := grownCap_le_maxLen w (n + s.size) c0 e h63
    refine ⟨some ⟨w.heap.size, 0⟩, _, _, _, hr, fun _ => rfl, ⟨hlen, _, heap_alloc_new w.drew _, hge, hcm, ?_, ?_⟩, ⟨rfl, rfl, rfl, by simp, fun k hk _ => heap_alloc_old w.drew _ hk⟩, fun b hb => .inr (by cases hb; exact Nat.le_refl _)⟩
    · have hz1 : (Value.int IntKind.u8 0).cells.size = 1 := rfl
      simp only [Array.size_append, List.size_toArray, size_zeroCells, hz1, hxl, hsl]
      omega
    · simp only [Array.toList_append, List.append_assoc, List.drop_zero]
      rw [← List.append_assoc, ← hlen]
      exact List.take_left
  by_cases hm0 : s.size = 0
  · have hn : Lib.strCells s = [] := List.eq_nil_of_length_eq_zero (by rw [hsl]; exact hm0)
    rw [hm0] at hf ⊢
    rw [hn, List.append_nil]
    by_cases hc0 : c0 = 0
    · subst hc0
      obtain rfl : n = 0 := by omega
      have hx0 : xs = [] := List.eq_nil_of_length_eq_zero hxl
      subst hx0
      refine ⟨none, A0, 0, w, ?_, fun h => absurd rfl h, ⟨rfl, rfl, rfl⟩, ⟨rfl, rfl, rfl, Nat.le_refl _, fun _ _ _ => rfl⟩, fun b hb => by cases hb⟩
      cases A0 <;> simp [Builtin.append_, run_underlying ht, run_underlying hu, sizeOf, typeInfo, hi, hsize, Builtin.lenOf, hm0, hf, hn, storeCells]
    · refine ⟨ad, A0, c0, w, ?_, hA, by simpa using ho, ⟨rfl, rfl, rfl, Nat.le_refl _, fun _ _ _ => rfl⟩, fun b hb => .inl hb⟩
      cases A0 <;> simp [Builtin.append_, run_underlying ht, run_underlying hu, sizeOf, typeInfo, hi, hsize, Builtin.lenOf, hm0, hf, hn, storeCells, hnc]
  · by_cases hroom : n + s.size ≤ c0
    · have hc0 : c0 ≠ 0 := by omega
      rw [hA hc0]
      obtain ⟨_, ho2⟩ := ho
      cases ad with
      | none => obtain ⟨_, h⟩ := ho2; omega
      | some g =>
        obtain ⟨cur, hh, _, hcm, hcs, hcur⟩ := ho2
        have hst := run_storeCells_at P g.g (g.o + n) e (Lib.strCells s) 0 cur w hh (by rw [hsl]; omega) (Lib.strCells_oneCell s)
        simp only [Nat.add_zero, hsl] at hst
        refine ⟨some g, atG (some g), c0, w.setRow g.g (cur.toList.take (g.o + n) ++ Lib.strCells s ++ cur.toList.drop (g.o + n + s.size)).toArray, ?_, fun _ => rfl, ⟨hlen, _, setRow_heap w g.g cur _ e _ hh, hroom, hcm, ?_, ?_⟩,
          ⟨rfl, rfl, rfl, by simp, fun k _ hk => setRow_other w g.g k _ (fun e => hk (by simp [e]))⟩, fun b hb => .inl hb⟩
        · simp [atG, Builtin.append_, run_underlying ht, run_underlying hu, sizeOf, typeInfo, hi, hsize, Builtin.lenOf, hroom, hf, Addr.add_lit, hst]
        · simp only [List.size_toArray, List.length_append, List.length_take, List.length_drop, Array.length_toList, hsl]
          omega
        · have hsz : cur.toList.length = g.o + c0 * 1 := by simpa using hcs
          have e1 : cur.toList.take (g.o + n) = cur.toList.take g.o ++ xs := by
            rw [List.take_add, ← hcur, Nat.mul_one]
          simp only
          rw [e1, List.append_assoc, List.append_assoc, List.drop_left' (by rw [List.length_take]; omega), ← List.append_assoc xs, List.take_left' (by rw [hlen])]
    · by_cases hc0 : c0 = 0
      · subst hc0
        obtain rfl : n = 0 := by omega
        have hx0 : xs = [] := List.eq_nil_of_length_eq_zero hxl
        subst hx0
        cases A0 with
        | some b => exact grow b rfl (by omega) (by intro j v hv; simp at hv)
        | none =>
          obtain ⟨v', w', h1, h2, h3, h4⟩ := Lib.run_append_own_string (P := P) w w.heap.size t u ty e i ht hu hi hz hsize hby (.slice none 0 0) 0 [] (World.ownsRow_nil w w.heap.size e 1) s (by omega) (by omega) (Nat.le_refl _)
          obtain ⟨ad', c', rfl, ho', hb'⟩ := OwnsAt.of_row h2
          refine ⟨ad', _, c', w', h1, fun _ => rfl, ho', ⟨h3.os, h3.tape, h3.output, h3.size, fun k hk _ => h3.block k hk (by simp [Value.ownBlock])⟩, fun b hb => .inr ?_⟩
          have hb2 := hb'.trans hb
          rcases h2.2 with ⟨hv, _⟩ | ⟨g, cap, cur, hv, hbg, _⟩
          · rw [hv] at hb2; simp [Value.ownBlock] at hb2
          · rw [hv] at hb2; simp [Value.ownBlock] at hb2; omega
      · have hA' := hA hc0
        cases ad with
        | none => obtain ⟨_, _, h⟩ := ho; omega
        | some g => exact grow ⟨g.g, g.o, none⟩ hA' (by omega) (fun j v hv => by rw [add_mk]; exact ho.cells j v hv)
theorem numsOf_get (b : ByteArray) {j : Nat} (h : j < (numsOf b).length) (h' : j < b.data.toList.length) : (numsOf b).get ⟨j, h⟩ = ((b.data.toList[j]'h').toNat : Int) := by
  simp [numsOf]
theorem appss_sound (hm : MR w Z β m) {d : Nat} {e : TypeId} {s : SV} {b : ByteArray} {ef : Eff} (h : appx d e (.cons (.int .u8) .nil) 1 s (.ps e (.cons (.int .u8) .nil) (numsOf b)) m some = some ef) {t u ty : TypeId} {i : TypeInfo} (ht : P.underlying t = some (.slice e))
    (hu : P.underlying u = some .string) (hi : P.info? e = some i) (hz : i.zero = some (.int .u8 0)) (hsize : i.size = 1) (hby : i.bytes = 1) {vs : Value} (hs : s.R w (β.away Z) β vs) :
    ∃ v' w', (Builtin.append_ #[t, u] ty #[vs, .string b]).run P w = .ok v' w' ∧ PostE Z w β m ef v' w' := by
  refine appx_gen hm h (by decide) hs fun ys hys => ?_
  have hy : ys = numsOf b := by
    have hys : (if h : (Row.cons (.int .u8) .nil) = (Row.cons (.int .u8) .nil) then (if e = e then some (castRow h (numsOf b)) else none) else none : Option (List Int)) = some ys := hys
    rw [dif_pos rfl, if_pos rfl] at hys
    cases hys
    rfl
  subst hy
  have hl : (numsOf b).length = b.size := by simp only [numsOf, List.length_map, Array.length_toList]; rfl
  have hc1 : (Row.cons (.int .u8) .nil).size = 1 := rfl
  refine ⟨Lib.strCells b, ?_, ?_, fun {ad n c0 A0 xs} ho hA hb => ?_⟩
  · rw [Lib.strCells_length, hc1, Nat.mul_one]
    exact hl.symm
  · intro j hj
    have hj : j < (numsOf b).length := hj
    have hj' : j < b.data.toList.length := by simpa [numsOf] using hj
    simp only [Row.R, Prim.R]
    refine ⟨_, ?_, rfl⟩
    rw [hc1, Nat.mul_one]
    apply List.ext_getElem?
    intro q
    cases q with
    | zero =>
      have e2 : (((Lib.strCells b).drop j).take 1)[0]? = some (.int .u8 ((b.data.toList[j]'hj').toNat : Int)) := by
        simp only [List.getElem?_take, List.getElem?_drop, Nat.add_zero, Nat.zero_lt_one, if_true, Lib.strCells, List.getElem?_map, List.getElem?_eq_getElem hj', Option.map_some]
      exact e2.trans (congrArg (fun z : Int => some (Value.int .u8 z)) (numsOf_get b hj hj').symm)
    | succ q => simp [List.getElem?_take]
  · have hl2 : List.length (α := Row.T (.cons (.int .u8) .nil)) (numsOf b) = b.size := hl
    rw [hl2] at hb ⊢
    exact run_append_str (P := P) ht hu hi hz hsize hby ho hA b (by simpa using hb)
end
end Go.Proofs.YtgakbdikappdbaaGreat.S2
set_option linter.unusedVariables false
set_option linter.unusedSimpArgs false
namespace Go.Proofs.YtgakbdikappdbaaGreat.S2
open Go
def LK.frz : LK → LK
  | .row ad cap n sz e => .froz ad cap n sz e
  | l => l
def Ob.frz : Ob → Ob
  | .row e r xs => .froz e r xs
  | o => o
def Loc.freezeL (β : Loc) (ks : List Nat) : Loc := fun q => if q ∈ ks then (β q).map LK.frz else β q
theorem LK.le_frz (l : LK) : l.le l.frz := by cases l <;> first | exact .refl _ | exact .froz ..
theorem Mem.sets_append (l l' : List (Nat × Ob)) : ∀ m : Mem, m.sets (l ++ l') = (m.sets l).sets l' := by
  induction l with
  | nil => intro m; rfl
  | cons x l ih => intro m; obtain ⟨k, o⟩ := x; simp only [List.cons_append, Mem.sets]; exact ih _
theorem get_freeze (m0 : Mem) : ∀ (ks : List Nat) (m : Mem) (q : Nat), (∀ k, m.get k = m0.get k ∨ m.get k = (m0.get k).map Ob.frz) → (m.sets (freeze m0 ks)).get q = if q ∈ ks then (m0.get q).map Ob.frz else m.get q
  | [], m, q, _ => by simp [freeze, Mem.sets]
  | k :: ks, m, q, h => by
    simp only [freeze]
    cases hk : m0.get k with
    | none =>
      simp only
      rw [get_freeze m0 ks m q h]
      by_cases hq : q = k
      · subst hq
        have h1 : m.get q = none := by rcases h q with h | h <;> rw [h, hk] <;> rfl
        simp [hk, h1]
      · simp [hq]
    | some o =>
      cases o with
      | row e r xs =>
        simp only [Mem.sets]
        rw [get_freeze m0 ks _ q fun k' => ?_]
        · by_cases hq : q = k
          · subst hq
            simp [Mem.get_set, hk, Ob.frz]
          · simp [Mem.get_set, hq]
        · rw [Mem.get_set]
          split
          · rename_i hk'
            subst hk'
            exact .inr (by rw [hk]; rfl)
          · exact h k'
      | _ =>
        simp only
        rw [get_freeze m0 ks m q h]
        by_cases hq : q = k
        · subst hq
          have h1 : m.get q = m0.get q := by rcases h q with h | h <;> rw [h, hk] <;> rfl
          simp [hk, h1, Ob.frz]
        · simp [hq]
section
variable {P : Program} {w : World} {Z : Nat → Prop} {β : Loc} {m : Mem}
theorem freeze_owned {ks : List Nat} {b : Nat} (h : (β.freezeL ks).owned b) : β.owned b := by
  obtain ⟨k, l, hl, ho⟩ := h
  simp only [Loc.freezeL] at hl
  split at hl
  · cases hb : β k with
    | none => rw [hb] at hl; cases hl
    | some l' =>
      rw [hb] at hl
      cases hl
      cases l' with
      | row => cases ho
      | box => exact ⟨k, _, hb, ho⟩
      | froz => cases ho
      | map => exact ⟨k, _, hb, ho⟩
      | gone => cases ho
  · exact ⟨k, l, hl, ho⟩
theorem freeze_step (ks : List Nat) : Step w w β (β.freezeL ks) where
  os := rfl
  tape := rfl
  output := rfl
  size := Nat.le_refl _
  block _ _ _ := rfl
  own b h := .inl (freeze_owned h)
  le k l h := by
    simp only [Loc.freezeL]
    split
    · exact ⟨l.frz, by rw [h]; rfl, l.le_frz⟩
    · exact ⟨l, h, .refl l⟩
theorem froz_pure (hm : MR w Z β m) {ks : List Nat} {k : Nat} (hk : k ∈ ks) {ad : Option RowAt} {cap n sz : Nat} {e : TypeId} (hl : β k = some (.row ad cap n sz e)) {r : Row} {xs : List r.T} (hsz : sz = r.size) (h0 : 0 < sz) (hn : n = xs.length)
    {cells : List Value} (ho : OwnsAt w e sz ad n cap cells) (hr : RowsR w (β.away Z) r xs cells) : (Prim.slc e r).R w ((β.freezeL ks).away Z) xs (.slice (atG ad) n cap) := by
  subst hsz hn
  have hst : Stays w w (β.away Z) ((β.freezeL ks).away Z) := (freeze_step ks).stays
  simp only [Prim.R]
  have hcap : CapOk (atG ad) xs.length cap := by
    refine ⟨ho.cap_le, fun h => ?_⟩
    cases ad with
    | none => exact ho.2.2
    | some g => simp [atG] at h
  refine ⟨_, cap, rfl, hcap, fun j hj => ?_⟩
  cases ad with
  | none => have := ho.nil0; omega
  | some g =>
    refine ⟨⟨g.g, g.o, none⟩, (cells.drop (j * r.size)).take r.size, rfl, ?_, ?_, ?_, fun i u hu => ?_, ?_⟩
    · rintro (⟨k', l', hk', hb⟩ | hz)
      · have hkk : k' = k := by
          have hold : ∃ l0, β k' = some l0 ∧ l0.own = some g.g := by
            simp only [Loc.freezeL] at hk'
            split at hk'
            · cases hb0 : β k' with
              | none => rw [hb0] at hk'; cases hk'
              | some l0 =>
                rw [hb0] at hk'
                cases hk'
                cases l0 with
                | row => cases hb
                | box => exact ⟨_, rfl, hb⟩
                | froz => cases hb
                | map => exact ⟨_, rfl, hb⟩
                | gone => cases hb
            · exact ⟨l', hk', hb⟩
          obtain ⟨l0, h1, h2⟩ := hold
          exact hm.inj k' k l0 _ g.g h1 hl h2 rfl
        subst hkk
        simp only [Loc.freezeL, if_pos hk, hl] at hk'
        cases hk'
        cases hb
      · exact hm.apart g.g ⟨k, _, hl, rfl⟩ hz
    · exact ho.lt g rfl
    · have h1 : (j + 1) * r.size ≤ xs.length * r.size := Nat.mul_le_mul_right _ hj
      rw [Nat.add_mul] at h1
      rw [List.length_take, List.length_drop, ho.1]
      omega
    · obtain ⟨hi, hu⟩ := get_row hu
      have := ho.cells _ _ hu
      rw [add_mk]
      exact this
    · exact Row.R_stays hst r _ _ (hr j hj)
theorem freeze_MR (hm : MR w Z β m) (ks : List Nat) : MR w Z (β.freezeL ks) (m.sets (freeze m ks)) := by
  have hget : ∀ q, (m.sets (freeze m ks)).get q = if q ∈ ks then (m.get q).map Ob.frz else m.get q := fun q => get_freeze m ks m q fun k => .inl rfl
  have hstep := freeze_step (w := w) (β := β) ks
  refine hm.update (fun q => q ∈ ks) hstep (fun q hq => ⟨by simp [Loc.freezeL, hq], by rw [hget, if_neg hq]⟩) (fun q l b _ _ _ => rfl) (fun q o hq hg => ?_) (fun q l hq hl => ?_) (fun q l b hq hl hb => ?_)
  · rw [hget, if_pos hq] at hg
    cases hm0 : m.get q with
    | none => rw [hm0] at hg; cases hg
    | some o0 =>
      rw [hm0] at hg
      cases hg
      obtain ⟨l, hl, hob⟩ := hm.obs q o0 hm0
      refine ⟨l.frz, by simp [Loc.freezeL, hq, hl], ?_⟩
      cases l with
      | row ad cap n sz e =>
        cases o0 with
        | row e' r xs =>
          obtain ⟨he, hsz, h0, hn, cells, ho, hr⟩ := hob
          exact ⟨he, hsz, hn, by subst he; exact froz_pure hm hq hl hsz h0 hn ho hr⟩
        | _ => exact hob.elim
      | _ =>
        have := hob.kept hstep.stays hstep.le fun b _ => rfl
        cases o0 <;> first | exact this | exact this.elim
  · rw [hget, if_pos hq]
    simp only [Loc.freezeL, if_pos hq] at hl
    cases hb : β q with
    | none => rw [hb] at hl; cases hl
    | some l0 =>
      obtain ⟨o, ho⟩ := hm.dom q l0 hb
      exact ⟨_, by rw [ho]; rfl⟩
  · have hex : ∃ l0, β q = some l0 ∧ l0.own = some b := by
      simp only [Loc.freezeL, if_pos hq] at hl
      cases hb0 : β q with
      | none => rw [hb0] at hl; cases hl
      | some l0 =>
        rw [hb0] at hl
        cases hl
        cases l0 with
        | row => cases hb
        | box => exact ⟨_, rfl, hb⟩
        | froz => cases hb
        | map => exact ⟨_, rfl, hb⟩
        | gone => cases hb
    obtain ⟨l0, h1, h2⟩ := hex
    refine ⟨hm.apart b ⟨q, l0, h1, h2⟩, fun k' l' hk' hb' => ?_⟩
    have hex' : ∃ l0, β k' = some l0 ∧ l0.own = some b := by
      simp only [Loc.freezeL] at hk'
      split at hk'
      · cases hb0 : β k' with
        | none => rw [hb0] at hk'; cases hk'
        | some l0 =>
          rw [hb0] at hk'
          cases hk'
          cases l0 with
          | row => cases hb'
          | box => exact ⟨_, rfl, hb'⟩
          | froz => cases hb'
          | map => exact ⟨_, rfl, hb'⟩
          | gone => cases hb'
      · exact ⟨l', hk', hb'⟩
    obtain ⟨l1, h3, h4⟩ := hex'
    exact hm.inj k' q l1 l0 b h3 h1 h4 h2
theorem Prim.of_frz0 (hm : MR w Z β m) {ks : List Nat} : (p : Prim) → (x : SV) → (y : p.T) → (v : Value) → (∀ k, x ≠ .slw k) → p.of m x = some y → (∀ k, k ∈ x.keys1 → k ∈ ks) → x.R w (β.away Z) β v → p.R w ((β.freezeL ks).away Z) y v := by
  intro p x y v hnw h hks hx
  have hst : Stays w w (β.away Z) ((β.freezeL ks).away Z) := (freeze_step ks).stays
  cases p with
  | int k =>
    cases x with
    | int k' n =>
      simp only [Prim.of] at h
      split at h
      · rename_i hk
        subst hk
        cases h
        exact hx
      · cases h
    | _ => simp [Prim.of] at h
  | bool =>
    cases x with
    | bool b => simp only [Prim.of] at h; cases h; exact hx
    | _ => simp [Prim.of] at h
  | str =>
    cases x with
    | str b => simp only [Prim.of] at h; cases h; exact hx
    | _ => simp [Prim.of] at h
  | slc e r =>
    cases x with
    | ps e' r' xs =>
      simp only [Prim.of] at h
      split at h
      · rename_i hr
        split at h
        · rename_i he
          subst hr
          subst he
          cases h
          exact Prim.R_stays hst (.slc e' r') xs v hx
        · cases h
      · cases h
    | nils =>
      simp only [Prim.of] at h
      cases h
      simp only [SV.R] at hx
      subst hx
      simp only [Prim.R]
      exact ⟨none, 0, rfl, ⟨Nat.le_refl _, fun _ => rfl⟩, fun j hj => absurd hj (by simp)⟩
    | pe =>
      simp only [Prim.of] at h
      cases h
      simp only [SV.R] at hx
      obtain ⟨a, cap, rfl⟩ := hx
      simp only [Prim.R]
      exact ⟨some a, cap, rfl, ⟨Nat.zero_le _, fun h => by cases h⟩, fun j hj => absurd hj (by simp)⟩
    | slw k => exact (hnw k rfl).elim
    | sl k off len =>
      have hk : k ∈ ks := hks k (by simp [SV.keys1])
      simp only [SV.R] at hx
      obtain ⟨lk, hlk, hp⟩ := hx
      have hgo : ∀ (xs : List r.T) (ad : Option RowAt) (cap : Nat), (Prim.slc e r).R w ((β.freezeL ks).away Z) xs (.slice (atG ad) xs.length cap) → pieceOf ad cap xs.length r.size off len v → (Prim.slc e r).R w ((β.freezeL ks).away Z) ((xs.drop off).take len) v := by
        intro xs ad cap hR hpc
        simp only [Prim.R] at hR ⊢
        obtain ⟨ad', cap', hv, hle, hx⟩ := hR
        simp at hv
        obtain ⟨A', c, rfl, hlc, hoff, hcap, ha⟩ := hpc
        have hlen : ((xs.drop off).take len).length = len := by simp; omega
        refine ⟨A', c, by rw [show List.length ((xs.drop off).take len) = len from hlen], by rw [show List.length ((xs.drop off).take len) = len from hlen]; exact ⟨hlc, fun h0 => by
          by_cases hc0 : c = 0
          · exact hc0
          · have hA := ha hc0
            rw [h0] at hA
            cases ad with
            | some g => simp at hA
            | none => have := hle.2 (by rw [← hv.1]; rfl); omega⟩, fun j hj => ?_⟩
        have hj' : j < len := by rw [← hlen]; exact hj
        obtain ⟨a, cs, had, hA, hlt, hl, hc, hR⟩ := hx (off + j) (by omega)
        cases ad with
        | none => rw [had] at hv; simp [atG] at hv
        | some g =>
          rw [had] at hv
          simp [atG] at hv
          obtain ⟨rfl, _⟩ := hv
          refine ⟨⟨g.g, g.o + off * r.size, none⟩, cs, ha (by omega), hA, hlt, hl, fun i u hu => ?_, ?_⟩
          · have := hc i u hu
            rw [add_mk] at this ⊢
            rwa [show g.o + off * r.size + (j * r.size + i) = g.o + ((off + j) * r.size + i) by rw [Nat.add_mul]; omega]
          · have e1 : ((xs.drop off).take len).get ⟨j, hj⟩ = xs.get ⟨off + j, by omega⟩ := by simp
            rw [show List.get (α := r.T) ((xs.drop off).take len) ⟨j, hj⟩ = xs.get ⟨off + j, by omega⟩ from e1]
            exact hR
      simp only [Prim.of] at h
      split at h
      · rename_i e1 r1 xs1 hg
        split at h
        · rename_i hr
          subst hr
          split at h
          · rename_i he
            subst he
            cases h
            obtain ⟨l', hl', hob⟩ := hm.obs k _ hg
            rw [hlk] at hl'; cases hl'
            cases lk with
            | row ad cap n sz e' =>
              obtain ⟨rfl, hsz, h0, hn, cells, ho, hrr⟩ := hob
              have := froz_pure hm hk hlk hsz h0 hn ho hrr
              subst hsz hn
              exact hgo xs1 ad cap this hp
            | _ => exact hob.elim
          · cases h
        · cases h
      · rename_i e1 r1 xs1 hg
        split at h
        · rename_i hr
          subst hr
          split at h
          · rename_i he
            subst he
            cases h
            obtain ⟨l', hl', hob⟩ := hm.obs k _ hg
            rw [hlk] at hl'; cases hl'
            cases lk with
            | froz ad cap n sz e' =>
              obtain ⟨rfl, hsz, hn, hR⟩ := hob
              subst hsz hn
              exact hgo xs1 ad cap (Prim.R_stays hst (.slc e' r1) xs1 _ hR) hp
            | _ => exact hob.elim
          · cases h
        · cases h
      · cases h
    | _ => simp [Prim.of] at h
theorem Prim.of_frz (hm : MR w Z β m) {ks : List Nat} (p : Prim) (x : SV) (y : p.T) (v : Value) (h : p.of m x = some y) (hks : ∀ k, k ∈ x.keys1 → k ∈ ks) (hx : x.R w (β.away Z) β v) : p.R w ((β.freezeL ks).away Z) y v := by
  cases x with
  | slw k =>
    cases p with
    | slc e r =>
      simp only [Prim.of] at h
      have hgo : ∀ xs : List r.T, (SV.sl k 0 xs.length).R w (β.away Z) β v → (Prim.slc e r).of m (.sl k 0 xs.length) = some ((xs.drop 0).take xs.length) → (Prim.slc e r).R w ((β.freezeL ks).away Z) xs v := by
        intro xs hr ho
        have h2 := Prim.of_frz0 hm (.slc e r) (.sl k 0 xs.length) ((xs.drop 0).take xs.length) v (by intro k' hk'; cases hk') ho hks hr
        have e : (xs.drop 0).take xs.length = xs := by simp
        rw [e] at h2
        exact h2
      have hres := res_R hm hx
      simp only [SV.res] at hres
      split at h
      · rename_i e1 r1 xs1 hg
        split at h
        · rename_i hr
          subst hr
          split at h
          · rename_i he
            subst he
            cases h
            rw [hg] at hres
            exact hgo xs1 hres (by simp [Prim.of, hg, castRow]; rfl)
          · cases h
        · cases h
      · rename_i e1 r1 xs1 hg
        split at h
        · rename_i hr
          subst hr
          split at h
          · rename_i he
            subst he
            cases h
            rw [hg] at hres
            exact hgo xs1 hres (by simp [Prim.of, hg, castRow]; rfl)
          · cases h
        · cases h
      · cases h
    | _ => cases h
  | _ => exact Prim.of_frz0 hm p _ y v (by intro k hk; cases hk) h hks hx
end
end Go.Proofs.YtgakbdikappdbaaGreat.S2
set_option linter.unusedVariables false
set_option linter.unusedSimpArgs false
namespace Go.Proofs.YtgakbdikappdbaaGreat.S2
open Go
theorem fold_cells (off : Nat) : ∀ (vs : List Value) (k : Nat) (C : Array Value), off + k + vs.length ≤ C.size →
    ((vs.zipIdx k).foldl (fun (cs : Array Value) (p : Value × Nat) => cs.setIfInBounds (off + p.2) p.1) C).toList = C.toList.take (off + k) ++ vs ++ C.toList.drop (off + k + vs.length)
  | [], k, C, h => by simp
  | v :: vs, k, C, h => by
    simp only [List.length_cons] at h
    rw [List.zipIdx_cons, List.foldl_cons, fold_cells off vs (k + 1) _ (by simp; omega)]
    apply List.ext_getElem?
    intro q
    simp only [Array.toList_setIfInBounds, List.getElem?_append, List.getElem?_take, List.getElem?_drop, List.getElem?_set, List.length_append, List.length_take, List.length_set, Array.length_toList, List.length_cons]
    have e1 : min (off + (k + 1)) C.size = off + (k + 1) := by omega
    have e2 : min (off + k) C.size = off + k := by omega
    simp only [e1, e2]
    by_cases h1 : q < off + k
    · simp [h1, show q < off + (k + 1) by omega, show q < off + (k + 1) + vs.length by omega, show q < off + k + (vs.length + 1) by omega, show off + k ≠ q by omega]
    · by_cases h2 : q = off + k
      · subst h2
        simp [show off + k < off + (k + 1) by omega, show off + k < off + (k + 1) + vs.length by omega, show off + k < C.size by omega]
      · by_cases h3 : q < off + k + (vs.length + 1)
        · simp [h1, h3, show ¬ q < off + (k + 1) by omega, show q < off + (k + 1) + vs.length by omega, show q - (off + k) = (q - (off + (k + 1))) + 1 by omega]
        · simp [h1, h3, show ¬ q < off + (k + 1) by omega, show ¬ q < off + (k + 1) + vs.length by omega, show off + k ≠ off + (k + 1) + vs.length + (q - (off + (k + 1) + vs.length)) by omega]
          congr 1
          omega
theorem fold_cells' (off : Nat) (v : Array Value) (C : Array Value) (h : off + v.size ≤ C.size) :
    (v.zipIdx.foldl (fun cs (c, j) => cs.setIfInBounds (off + j) c) C).toList = C.toList.take off ++ v.toList ++ C.toList.drop (off + v.size) := by
  rw [← Array.foldl_toList, Array.toList_zipIdx]
  have := fold_cells off v.toList 0 C (by simpa using h)
  simpa using this
theorem fill_lit {sz : Nat} : ∀ (vals : List Value) (j : Nat) (C : Array Value), (∀ v ∈ vals, v.cells.size = sz) → (j + vals.length) * sz = C.size →
    ∃ C', Instr.fill (fun i => some (i * sz, sz)) C ((List.range' j vals.length).zip vals) = some C' ∧ C'.toList = C.toList.take (j * sz) ++ vals.flatMap (fun v => v.cells.toList)
  | [], j, C, _, h => ⟨C, rfl, by simp at h; rw [List.take_of_length_le (by simp; omega)]; simp⟩
  | v :: vals, j, C, hv, h => by
    have hvs : v.cells.size = sz := hv v (by simp)
    simp only [List.length_cons] at h
    have h2 : (j + 1) * sz ≤ C.size := by rw [← h]; exact Nat.mul_le_mul_right _ (by omega)
    rw [Nat.add_mul] at h2
    obtain ⟨C', h3, h4⟩ := fill_lit vals (j + 1) (v.cells.zipIdx.foldl (fun cs (c, i) => cs.setIfInBounds (j * sz + i) c) C) (fun u hu => hv u (by simp [hu])) (by
      have : (v.cells.zipIdx.foldl (fun cs (c, i) => cs.setIfInBounds (j * sz + i) c) C).size = C.size := by
        rw [← Array.length_toList, fold_cells' (j * sz) v.cells C (by omega)]
        simp; omega
      rw [this, ← h]
      congr 1
      omega)
    refine ⟨C', ?_, ?_⟩
    · simp only [List.length_cons, List.range'_succ, List.zip_cons_cons, Instr.fill]
      rw [if_neg (by simp; omega)]
      exact h3
    · rw [h4, fold_cells' (j * sz) v.cells C (by omega), List.flatMap_cons]
      have : (C.toList.take (j * sz) ++ v.cells.toList ++ C.toList.drop (j * sz + v.cells.size)).take ((j + 1) * sz) = C.toList.take (j * sz) ++ v.cells.toList := by
        rw [List.take_append_of_le_length (by simp; rw [Nat.add_mul]; omega)]
        exact List.take_of_length_le (by simp; rw [Nat.add_mul]; omega)
      rw [this, List.append_assoc]
section
variable {P : Program} {w : World} {Z : Nat → Prop} {β : Loc} {m : Mem}
theorem buildSlice_run {t e : TypeId} {i : TypeInfo} {z : Value} (ht : P.underlying t = some (.slice e)) (hi : P.info? e = some i) (hz : i.zero = some z) (hzs : z.cells.size = i.size) {vals : List Value} (hv : ∀ v ∈ vals, v.cells.size = i.size) (hsmall : vals.length * i.size ≤ 16777216) :
    (Instr.buildSlice t vals.length ((List.range vals.length).zip vals).toArray).run P w = .ok (.slice (some ⟨w.heap.size, 0, none⟩) vals.length vals.length) (w.alloc (.cells (vals.flatMap (fun v => v.cells.toList)).toArray e)) := by
  obtain ⟨C', h1, h2⟩ := fill_lit (sz := i.size) vals 0 ((Array.range (vals.length * i.size)).map ((if vals.length * i.size = 0 then #[] else z.cells)[· % (if vals.length * i.size = 0 then #[] else z.cells).size]!)) hv (by simp)
  have h3 : C' = (vals.flatMap (fun v => v.cells.toList)).toArray := by
    apply Array.ext'
    rw [h2]
    simp
  subst h3
  rw [List.range_eq_range']
  unfold Instr.buildSlice
  rw [Sem.run_bind, run_underlying ht]
  simp only [Result.andThen_ok]
  rw [Sem.run_bind, sizeOf_run hi]
  simp only [Result.andThen_ok]
  rw [if_neg (show ¬ vals.length * i.size > 2 ^ 24 by omega)]
  by_cases hn : vals.length * i.size = 0
  · rw [if_pos hn]
    simp only [if_pos hn] at h1
    simp only [Sem.run_bind, Sem.run_pure, Result.andThen_ok, h1, newRow, run_newObj]
    rfl
  · rw [if_neg hn]
    simp only [if_neg hn] at h1
    simp only [Sem.run_bind, Sem.run_pure, Result.andThen_ok, zeroValue, typeInfo, hi, hz, run_program, h1, newRow, run_newObj]
    rfl
theorem litx_gather {d : Nat} {e : TypeId} {r : Row} : ∀ (parts : List (Nat × SV)) (xs : List r.T) (ks : List Nat) (ef : Eff), litx d e r m parts xs ks = some ef →
    ∃ ys : List r.T, ys.length = parts.length ∧ (∀ (j : Nat) p y, parts[j]? = some p → ys[j]? = some y → r.of m p.2.cellsOf = some y) ∧ (m.get (site d)).isNone = true ∧
      ef = ⟨.slw (site d), freeze m (ks ++ parts.flatMap fun p => p.2.cellsOf.flatMap SV.keys1) ++ [(site d, .row e r (xs ++ ys))], site d :: (ks ++ parts.flatMap fun p => p.2.cellsOf.flatMap SV.keys1)⟩
  | [], xs, ks, ef, h => by
    simp only [litx] at h
    split at h
    · rename_i hf
      cases h
      exact ⟨[], rfl, by simp, hf, by simp⟩
    · cases h
  | (i, v) :: l, xs, ks, ef, h => by
    simp only [litx] at h
    split at h
    · rename_i y hy
      obtain ⟨ys, hl, hys, hf, he⟩ := litx_gather l _ _ ef h
      refine ⟨y :: ys, by simp [hl], fun j p y' hp hy' => ?_, hf, by rw [he]; simp [List.append_assoc]⟩
      cases j with
      | zero => simp at hp hy'; subst hp hy'; exact hy
      | succ j => exact hys j p y' (by simpa using hp) (by simpa using hy')
    · cases h
theorem lit_sound (hm : MR w Z β m) {d : Nat} {e : TypeId} {r : Row} {parts : List (Nat × SV)} {ef : Eff} (h : litx d e r m parts [] [] = some ef) {t : TypeId} {i : TypeInfo} {z : Value} (ht : P.underlying t = some (.slice e)) (hi : P.info? e = some i)
    (hz : i.zero = some z) (hzs : z.cells.size = i.size) (hsz : r.size = i.size) (h0 : 0 < r.size) {vals : List Value} (hv : SV.RL w (β.away Z) β (parts.map (·.2)) vals) (hok : ∀ p ∈ parts, p.2.cellsOk = true) (hsmall : parts.length * r.size ≤ 16777216) :
    PostE Z w β m ef (.slice (some ⟨w.heap.size, 0, none⟩) vals.length vals.length) (w.alloc (.cells (vals.flatMap (fun v => v.cells.toList)).toArray e)) ∧ (∀ v ∈ vals, v.cells.size = i.size) := by
  obtain ⟨ys, hyl, hys, hf, rfl⟩ := litx_gather parts [] [] ef h
  simp only [List.nil_append] at *
  have hvl : vals.length = parts.length := by rw [SV.RL_len _ _ hv, List.length_map]
  have hcell : ∀ (j : Nat) p v, parts[j]? = some p → vals[j]? = some v → SV.RL w (β.away Z) β p.2.cellsOf v.cells.toList ∧ ∀ u ∈ v.cells.toList, u.oneCell' = true := by
    intro j p v hp hvj
    obtain ⟨v', hv', hR⟩ := SV.RL_get _ _ hv j p.2 (by simp [hp])
    rw [hvj] at hv'
    cases hv'
    exact cellsOf_R hR (hok p (List.mem_of_getElem? hp))
  have hget : ∀ {j : Nat}, j < parts.length → ∃ p v y, parts[j]? = some p ∧ vals[j]? = some v ∧ ys[j]? = some y := fun {j} hj =>
    ⟨_, _, _, List.getElem?_eq_getElem hj, List.getElem?_eq_getElem (by omega), List.getElem?_eq_getElem (by omega)⟩
  have hrow : ∀ (j : Nat) p v y, parts[j]? = some p → vals[j]? = some v → ys[j]? = some y → r.R w ((β.freezeL (parts.flatMap fun p => p.2.cellsOf.flatMap SV.keys1)).away Z) y v.cells.toList := by
    intro j p v y hp hvj hy
    refine Row.of_gen (m := m) (β := β) (A := β.away Z) (S := fun x => x ∈ p.2.cellsOf) (fun p' x y' v' hxm hx hR => ?_) r _ y _ (fun _ h => h) (hys j p y hp hy) (hcell j p v hp hvj).1
    exact Prim.of_frz hm p' x y' v' hx (fun k hk => List.mem_flatMap.2 ⟨p, List.mem_of_getElem? hp, List.mem_flatMap.2 ⟨x, hxm, hk⟩⟩) hR
  have hvsz : ∀ v ∈ vals, v.cells.size = i.size := by
    intro v hvm
    obtain ⟨j, hj⟩ := List.getElem?_of_mem hvm
    have hjl : j < parts.length := by rw [← hvl]; exact (List.getElem?_eq_some_iff.1 hj).1
    obtain ⟨p, v', y, hp, hv', hy⟩ := hget hjl
    rw [hj] at hv'
    cases hv'
    have := (Row.R_len r _ _ (hrow j p v y hp hj hy)).1
    simpa [hsz] using this
  refine ⟨?_, hvsz⟩
  obtain ⟨F, hF⟩ : ∃ F, F = parts.flatMap fun p => p.2.cellsOf.flatMap SV.keys1 := ⟨_, rfl⟩
  rw [← hF] at hrow ⊢
  have hmf := freeze_MR hm F
  have hstf := freeze_step (w := w) (β := β) F
  have hd : (m.sets (freeze m F)).get (site d) = none := by
    rw [get_freeze m F m _ fun k => .inl rfl]
    have : m.get (site d) = none := by simpa using hf
    split
    · rw [this]; rfl
    · exact this
  -- the cells
  have hcells : (vals.flatMap (fun v => v.cells.toList)).length = ys.length * r.size := by
    rw [List.length_flatMap]
    have : (vals.map fun v => v.cells.toList.length) = List.replicate vals.length r.size := by
      apply List.ext_getElem?
      intro q
      rw [List.getElem?_map, List.getElem?_replicate]
      by_cases hq : q < vals.length
      · rw [List.getElem?_eq_getElem hq, if_pos hq]
        simp [hvsz _ (List.getElem_mem hq), hsz]
      · rw [List.getElem?_eq_none (by omega), if_neg hq]; rfl
    rw [this, List.sum_replicate_nat, hyl, hvl]
  have hpick : ∀ (l : List Value) (j : Nat) (v : Value), (∀ u ∈ l, u.cells.size = r.size) → l[j]? = some v → (((l.flatMap (fun v => v.cells.toList)).drop (j * r.size)).take r.size) = v.cells.toList := by
    intro l
    induction l with
    | nil => intro j v _ h; simp at h
    | cons u l ih =>
      intro j v hu h
      have hus : u.cells.toList.length = r.size := by simpa using hu u (by simp)
      cases j with
      | zero =>
        simp at h
        subst h
        simp only [Nat.zero_mul, List.drop_zero, List.flatMap_cons]
        rw [List.take_append_of_le_length (by omega), List.take_of_length_le (by omega)]
      | succ j =>
        rw [List.flatMap_cons, show (j + 1) * r.size = u.cells.toList.length + j * r.size by rw [hus, Nat.add_mul]; omega, List.drop_append]
        have : List.drop (u.cells.toList.length + j * r.size) u.cells.toList = [] := by simp
        rw [this, List.nil_append, show u.cells.toList.length + j * r.size - u.cells.toList.length = j * r.size by omega]
        exact ih j v (fun x hx => hu x (by simp [hx])) (by simpa using h)
  have hrr : RowsR w ((β.freezeL F).away Z) r ys (vals.flatMap (fun v => v.cells.toList)) := by
    intro j hj
    obtain ⟨p, v, y, hp, hvj, hy⟩ := hget (show j < parts.length by omega)
    rw [hpick vals j v (fun u hu => by rw [hsz]; exact hvsz u hu) hvj]
    have : ys.get ⟨j, hj⟩ = y := by
      have := List.getElem?_eq_getElem hj
      rw [hy] at this
      simpa using this.symm
    rw [this]
    exact hrow j p v y hp hvj hy
  have hown : (w.alloc (.cells (vals.flatMap (fun v => v.cells.toList)).toArray e)).ownsRow 0 e r.size (.slice (some ⟨w.heap.size, 0, none⟩) ys.length ys.length) ys.length (vals.flatMap (fun v => v.cells.toList)) := by
    refine ⟨hcells, .inr ⟨w.heap.size, ys.length, _, rfl, Nat.zero_le _, heap_alloc_new w _, Nat.le_refl _, ?_, ?_, ?_⟩⟩
    · simp only [maxLen]
      have : parts.length ≤ parts.length * r.size := Nat.le_mul_of_pos_right _ h0
      omega
    · simpa using hcells
    · exact List.take_of_length_le (Nat.le_of_eq hcells)
  obtain ⟨β', h1, h2, h3⟩ := post_row0 hmf hd (old := none) (s := .slice none 0 0) (by intro k l h; cases h) h0 hown (World.grownBy_alloc w _ _) (by intro b hb; simp [Value.ownBlock] at hb) (.inr rfl) (fun A' hst => hrr.stays hst) []
  refine ⟨β', hstf.trans h1, ?_, ?_⟩
  · simpa [goneOf, Mem.sets_append] using h2
  · rw [hvl, ← hyl]
    exact h3
end
end Go.Proofs.YtgakbdikappdbaaGreat.S2
set_option linter.unusedVariables false
set_option linter.unusedSimpArgs false
namespace Go.Proofs.YtgakbdikappdbaaGreat.S2
open Go
section
variable {P : Program} {w : World} {A : Nat → Prop} {β : Loc}
theorem fillx_sound {place : Nat → Option (Nat × Nat)} : ∀ (ps : List (Nat × Nat × SV)) (cs cs' : List SV) (C : Array Value) (vps : List (Nat × Value)), fillx cs ps = some cs' → SV.RL w A β cs C.toList → (∀ u ∈ C.toList, u.oneCell' = true) →
    vps.length = ps.length → (∀ (j : Nat) p q, ps[j]? = some p → vps[j]? = some q → place q.1 = some (p.1, p.2.1) ∧ p.2.2.R w A β q.2) →
    ∃ C', Instr.fill place C vps = some C' ∧ SV.RL w A β cs' C'.toList ∧ ∀ u ∈ C'.toList, u.oneCell' = true
  | [], cs, cs', C, [], h, hl, h1, _, _ => by
    simp only [fillx] at h
    cases h
    exact ⟨C, rfl, hl, h1⟩
  | (off, n, x) :: ps, cs, cs', C, (i, v) :: vps, h, hl, h1, hlen, hp => by
    simp only [fillx] at h
    split at h
    · rename_i hc
      obtain ⟨hn, hok, hfit⟩ := hc
      obtain ⟨hpl, hR⟩ := hp 0 _ _ rfl rfl
      obtain ⟨hcl, hc1⟩ := cellsOf_R hR hok
      have hvl : v.cells.toList.length = n := by rw [SV.RL_len _ _ hcl, hn]
      have hvs : v.cells.size = n := by simpa using hvl
      have hCl : C.toList.length = cs.length := SV.RL_len _ _ hl
      have hCs : C.size = cs.length := by simpa using hCl
      have hfold := fold_cells' off v.cells C (by omega)
      have hRL : SV.RL w A β (cs.take off ++ x.cellsOf ++ cs.drop (off + n)) (v.cells.zipIdx.foldl (fun cs (c, j) => cs.setIfInBounds (off + j) c) C).toList := by
        rw [hfold, hvs]
        exact SV.RL_append _ _ _ _ (SV.RL_append _ _ _ _ (SV.RL_take _ _ _ hl) hcl) (SV.RL_drop _ _ _ hl)
      have h1' : ∀ u ∈ (v.cells.zipIdx.foldl (fun cs (c, j) => cs.setIfInBounds (off + j) c) C).toList, u.oneCell' = true := by
        intro u hu
        rw [hfold] at hu
        simp only [List.mem_append] at hu
        rcases hu with (hu | hu) | hu
        · exact h1 u (List.mem_of_mem_take hu)
        · exact hc1 u hu
        · exact h1 u (List.mem_of_mem_drop hu)
      obtain ⟨C', h2, h3, h4⟩ := fillx_sound ps _ cs' _ vps h hRL h1' (by simpa using hlen) fun j p q hpj hqj => hp (j + 1) p q (by simpa using hpj) (by simpa using hqj)
      refine ⟨C', ?_, h3, h4⟩
      simp only [Instr.fill]
      simp only at hpl
      rw [hpl]
      simp only
      rw [if_neg (by simp; omega)]
      exact h2
    · cases h
  | [], cs, cs', C, _ :: _, h, hl, h1, hlen, hp => by simp at hlen
  | _ :: _, cs, cs', C, [], h, hl, h1, hlen, hp => by simp at hlen
theorem zeroT_sound {t : TypeId} {zs : List SV} (h : zeroT P t = some zs) : ∃ i z, P.info? t = some i ∧ i.zero = some z ∧ z.cells.size = i.size ∧ allSome constSV1 z.cells.toList = some zs := by
  unfold zeroT at h
  split at h
  · rename_i i hi
    split at h
    · rename_i z hz
      split at h
      · rename_i hs
        exact ⟨i, z, hi, hz, hs, h⟩
      · cases h
    · cases h
  · cases h
theorem build_sound {t : TypeId} {zs : List SV} (hz : zeroT P t = some zs) {pl : Nat → Option (Nat × Nat)} (hpl : placesOf P t = some pl) {ps : List (Nat × Nat × SV)} {cs' : List SV} (h : fillx zs ps = some cs') {vps : Array (Nat × Value)}
    (hlen : vps.toList.length = ps.length) (hp : ∀ (j : Nat) p q, ps[j]? = some p → vps.toList[j]? = some q → pl q.1 = some (p.1, p.2.1) ∧ p.2.2.R w A β q.2) : ∃ u, (Instr.build t vps).run P w = .ok u w ∧ (SV.agg cs').R w A β u := by
  obtain ⟨i, z, hi, hzz, hs, hc⟩ := zeroT_sound hz
  obtain ⟨hl, h1⟩ := constSVs_R (w := w) (A := A) (β := β) hc
  obtain ⟨C', h2, h3, h4⟩ := fillx_sound (place := pl) ps zs cs' z.cells vps.toList h hl h1 hlen hp
  refine ⟨.agg C', run_build w t vps C' ?_, ?_⟩
  · unfold Program.built
    unfold placesOf at hpl
    rw [hi]
    split at hpl
    · rename_i fs hu
      rw [hu]
      split at hpl
      · rename_i pl' hm
        cases hpl
        simp only [hzz, hm]
        exact h2
      · cases hpl
    · rename_i n e hu
      rw [hu]
      split at hpl
      · rename_i ie hie
        cases hpl
        simp only [hzz, hie]
        exact h2
      · cases hpl
    · cases hpl
  · simp only [SV.R]
    exact ⟨C'.toList, by simp, h3, h4⟩
theorem lenx_str {x : SV} {v : SV} (h : lenx .str x = some v) {vx : Value} (hx : x.R w A β vx) {t : TypeId} (ht : P.underlying t = some .string) (ty : TypeId) : ∃ u, (Builtin.len_ #[t] ty #[vx]).run P w = .ok u w ∧ v.R w A β u := by
  unfold lenx at h
  split at h
  · cases h
    simp only [SV.R] at hx
    subst hx
    exact ⟨.int .i64 _, by simp [Builtin.len_, run_underlying ht, goInt], rfl⟩
  all_goals first
    | (rename_i heq _; cases heq; done)
    | (rename_i heq; cases heq; done)
    | cases h
theorem lenx_slc {x : SV} {v : SV} (h : lenx .slc x = some v) {vx : Value} (hx : x.R w A β vx) {t e : TypeId} (ht : P.underlying t = some (.slice e)) (ty : TypeId) : ∃ u, (Builtin.len_ #[t] ty #[vx]).run P w = .ok u w ∧ v.R w A β u := by
  cases x with
  | ps e' r xs =>
    simp only [lenx] at h
    cases h
    simp only [SV.R, Prim.R] at hx
    obtain ⟨ad, cap, rfl, _⟩ := hx
    exact ⟨.int .i64 _, by simp [Builtin.len_, run_underlying ht, goInt], rfl⟩
  | sl k off len =>
    simp only [lenx] at h
    cases h
    simp only [SV.R] at hx
    obtain ⟨l, _, hp⟩ := hx
    have : ∃ A' c, vx = .slice A' len c := by
      cases l with
      | box => exact hp.elim
      | row => obtain ⟨A', c, rfl, _⟩ := hp; exact ⟨_, _, rfl⟩
      | froz => obtain ⟨A', c, rfl, _⟩ := hp; exact ⟨_, _, rfl⟩
      | map => exact hp.elim
      | gone => obtain ⟨A', c, rfl, _⟩ := hp; exact ⟨_, _, rfl⟩
    obtain ⟨A', c, rfl⟩ := this
    exact ⟨.int .i64 _, by simp [Builtin.len_, run_underlying ht, goInt], rfl⟩
  | nils =>
    simp only [lenx] at h
    cases h
    simp only [SV.R] at hx
    subst hx
    exact ⟨.int .i64 0, by simp [Builtin.len_, run_underlying ht, goInt], rfl⟩
  | pe =>
    simp only [lenx] at h
    cases h
    simp only [SV.R] at hx
    obtain ⟨a, cap, rfl⟩ := hx
    exact ⟨.int .i64 0, by simp [Builtin.len_, run_underlying ht, goInt], rfl⟩
  | bsl k n =>
    simp only [lenx] at h
    cases h
    simp only [SV.R] at hx
    obtain ⟨l, _, hp⟩ := hx
    have : ∃ A' c, vx = .slice A' n c := by
      cases l with
      | box b => exact ⟨_, _, hp⟩
      | gone => exact hp
      | _ => exact hp.elim
    obtain ⟨A', c, rfl⟩ := this
    exact ⟨.int .i64 _, by simp [Builtin.len_, run_underlying ht, goInt], rfl⟩
  | _ => simp [lenx] at h
theorem lenx_cap {x : SV} {v : SV} (h : lenx .cap x = some v) {vx : Value} (hx : x.R w A β vx) {t e : TypeId} (ht : P.underlying t = some (.slice e)) (ty : TypeId) : ∃ u, (Builtin.cap_ #[t] ty #[vx]).run P w = .ok u w ∧ v.R w A β u := by
  cases x with
  | nils =>
    simp only [lenx] at h
    cases h
    simp only [SV.R] at hx
    subst hx
    exact ⟨.int .i64 0, by simp [Builtin.cap_, run_underlying ht, goInt], rfl⟩
  | _ => simp [lenx] at h
theorem zeroRow_R : (r : Row) → (cs : List Value) → zeroRow r cs = true → r.R w A r.zero cs
  | .nil, [], _ => rfl
  | .nil, _ :: _, h => by simp [zeroRow] at h
  | .cons p r, [], h => by cases p <;> simp [zeroRow] at h
  | .cons p r, v :: l, h => by
    have hp : (p.R w A p.zero v) ∧ zeroRow r l = true := by
      cases p with
      | int k =>
        cases v <;> simp [zeroRow] at h
        obtain ⟨⟨rfl, rfl⟩, h⟩ := h
        exact ⟨rfl, h⟩
      | bool =>
        cases v <;> simp [zeroRow] at h
        obtain ⟨rfl, h⟩ := h
        exact ⟨rfl, h⟩
      | str =>
        cases v <;> simp [zeroRow] at h
        rename_i s
        obtain ⟨h1, h⟩ := h
        refine ⟨?_, h⟩
        simp only [Prim.R, Prim.zero]
        congr 1
      | slc e r' =>
        unfold zeroRow at h
        split at h <;> simp_all
        · rename_i heq _; cases heq
          exact ⟨none, 0, rfl, ⟨Nat.le_refl _, fun _ => rfl⟩, fun j hj => absurd hj (by simp [Prim.zero])⟩
    match r, l, hp with
    | .nil, [], ⟨hp, _⟩ => exact ⟨v, rfl, hp⟩
    | .nil, _ :: _, ⟨_, h⟩ => simp [zeroRow] at h
    | .cons q r', l, ⟨hp, h⟩ => exact ⟨v, l, rfl, hp, zeroRow_R (.cons q r') l h⟩
theorem zeros_rows {r : Row} {z : Array Value} (hz : zeroRow r z.toList = true) (hs : z.size = r.size) (n : Nat) (tail : List Value) : RowsR w A r (List.replicate n r.zero) (((Array.range (n * r.size)).map fun i => z[i % z.size]!).toList ++ tail) := by
  intro j hj
  have hjn : j < n := by simpa using hj
  have e : ((((Array.range (n * r.size)).map fun i => z[i % z.size]!).toList ++ tail).drop (j * r.size)).take r.size = z.toList := by
    apply List.ext_getElem?
    intro i
    rw [List.getElem?_take]
    split
    · rename_i hi
      have hlt : j * r.size + i < n * r.size := by
        have : (j + 1) * r.size ≤ n * r.size := Nat.mul_le_mul_right _ hjn
        rw [Nat.add_mul] at this
        omega
      rw [List.getElem?_drop, List.getElem?_append_left (by simp; exact hlt)]
      have hm : (j * r.size + i) % z.size = i := by rw [hs, Nat.mul_comm, Nat.mul_add_mod, Nat.mod_eq_of_lt hi]
      have hi' : i < z.size := by omega
      simp [hlt, hm, hi']
    · rename_i hi
      rw [List.getElem?_eq_none (by simp; omega)]
  rw [e, show (List.replicate n r.zero).get ⟨j, hj⟩ = r.zero by simp]
  exact zeroRow_R r _ hz
theorem mkx_sound {Z : Nat → Prop} {m : Mem} (hm : MR w Z β m) {d : Nat} {e : TypeId} {r : Row} {bytes : Nat} {n c : SV} {ef : Eff} (h : mkx d e r bytes n c m some = some ef) {t : TypeId} {i : TypeInfo} {z : Value} (ht : P.underlying t = some (.slice e)) (hi : P.info? e = some i)
    (hz : i.zero = some z) (hzs : z.cells.size = i.size) (hsz : r.size = i.size) (h0 : 0 < r.size) (hby : i.bytes = bytes) (hb0 : 0 < i.bytes) (hzr : zeroRow r z.cells.toList = true) {vn vc : Value} (hn : n.R w (β.away Z) β vn) (hc : c.R w (β.away Z) β vc) :
    ∃ v' w', (Instr.makeSlice t vn vc).run P w = .ok v' w' ∧ PostE Z w β m ef v' w' := by
  subst hby
  unfold mkx at h
  split at h
  · rename_i n c
    split at h
    · rename_i hfree
      obtain ⟨h1, h⟩ := chk_some h
      obtain ⟨h2, h⟩ := chk_some h
      obtain ⟨h3, h⟩ := chk_some h
      cases h
      simp only [decide_eq_true_eq] at h1 h2 h3
      simp only [SV.R] at hn hc
      subst hn hc
      have hcb : c ≤ c * i.bytes := by
        have := Int.mul_le_mul_of_nonneg_left (show (1 : Int) ≤ i.bytes by omega) (show 0 ≤ c by omega)
        omega
      have hsz' : i.size = r.size := hsz.symm
      have hrun := run_make (P := P) w t e i z ht hi hz .i64 .i64 n c h1 h2 (by rw [Int.mul_comm]; omega) (by omega)
      rw [hsz'] at hrun
      refine ⟨_, _, hrun, ?_⟩
      have hown := World.ownsRow_lit (base := 0) (size := r.size) (e := e) w (madeCells z.cells (c.toNat * r.size)) c.toNat (Nat.zero_le _) (by simp only [maxLen]; omega) (size_madeCells _ _)
      have hown' := ownsRow_take (k := n.toNat) hown (by omega)
      have hsplit : (madeCells z.cells (c.toNat * r.size)).toList.take (n.toNat * r.size) = ((Array.range (n.toNat * r.size)).map fun j => z.cells[j % z.cells.size]!).toList ++ [] := by
        have hle : n.toNat * r.size ≤ c.toNat * r.size := Nat.mul_le_mul_right _ (by omega)
        rw [List.append_nil]
        apply List.ext_getElem?
        intro j
        rw [List.getElem?_take]
        split
        · rename_i hj
          have hj' : j < c.toNat * r.size := by omega
          simp [madeCells, hj, hj']
        · rename_i hj
          rw [List.getElem?_eq_none (by simp; omega)]
      rw [hsplit] at hown'
      exact post_row0 hm (d := site d) (by simpa using hfree) (old := none) (s := .slice none 0 0) (by intro k l h; cases h) h0 (xs := List.replicate n.toNat r.zero) (by rw [List.length_replicate]; exact hown') (World.grownBy_alloc w _ none)
        (by intro b hb; simp [Value.ownBlock] at hb) (.inr (by simp [Value.ownBlock])) (fun A' _ => zeros_rows hzr (by omega) _ _) _
    · cases h
  · cases h
theorem run_append_zeros {t u ty e : TypeId} {i : TypeInfo} {z : Value} (ht : P.underlying t = some (.slice e)) (hu : P.underlying u = some (.int .i64)) (hi : P.info? e = some i) (hz : i.zero = some z) (hzs : z.cells.size = i.size) (h0 : 0 < i.size)
    {n : Int} (hn : 0 < n) (hb : n * i.bytes ≤ 140737488355328) (hb0 : 0 < i.bytes) :
    (Builtin.append_ #[t, u] ty #[.slice none 0 0, .int .i64 n]).run P w = .ok (.slice (some ⟨w.heap.size, 0, none⟩) n.toNat (grownCap w n.toNat 0 e)) (w.drew.alloc (.cells (Builtin.zeroCells z.cells n.toNat ++ Builtin.zeroCells z.cells (grownCap w n.toNat 0 e - n.toNat)) e)) := by
  have hnb : n ≤ n * i.bytes := by
    have := Int.mul_le_mul_of_nonneg_left (show (1 : Int) ≤ i.bytes by omega) (show 0 ≤ n by omega)
    omega
  have hw : IntKind.i64.wrap n = n := by rw [IntKind.wrap_i64]; omega
  have n1 : ¬ n < 0 := by omega
  have n2 : ¬ (281474976710656 < n * (i.bytes : Int)) := by omega
  have n3 : ¬ (n.toNat = 0) := by omega
  have n4 : ¬ n ≤ 0 := by omega
  have n5 : ¬ (9223372036854775807 < max n 0) := by omega
  have n6 : ¬ (281474976710656 < Builtin.nextslicecap n.toNat 0 * i.bytes) := by
    rw [nextslicecap_zero (by omega)]
    have : ((n.toNat * i.bytes : Nat) : Int) = n * i.bytes := by rw [Int.natCast_mul, Int.toNat_of_nonneg (by omega)]
    omega
  have n7 : ¬ (n.toNat * i.size = 0) := by
    intro h
    rcases Nat.mul_eq_zero.1 h with h | h <;> omega
  simp [Builtin.append_, run_underlying ht, run_underlying hu, sizeOf, typeInfo, zeroValue, hi, hz, asInt, asIntOf, hw, n1, n2, n3, n4, n5, n6, Question.forced, run_firstCells_none, newRow, grownCap]
  exact fun h => (n7 h).elim
theorem growx_sound {Z : Nat → Prop} {m : Mem} (hm : MR w Z β m) {d : Nat} {e : TypeId} {r : Row} {bytes : Nat} {s n : SV} {ef : Eff} (h : growx d e r bytes s n m some = some ef) {t u ty : TypeId} {i : TypeInfo} {z : Value} (ht : P.underlying t = some (.slice e)) (hu : P.underlying u = some (.int .i64)) (hi : P.info? e = some i)
    (hz : i.zero = some z) (hzs : z.cells.size = i.size) (hsz : r.size = i.size) (h0 : 0 < r.size) (hby : i.bytes = bytes) (hb0 : 0 < i.bytes) (hzr : zeroRow r z.cells.toList = true) {vs vn : Value} (hs : s.R w (β.away Z) β vs) (hn : n.R w (β.away Z) β vn) :
    ∃ v' w', (Builtin.append_ #[t, u] ty #[vs, vn]).run P w = .ok v' w' ∧ PostE Z w β m ef v' w' := by
  subst hby
  unfold growx at h
  split at h
  · rename_i n
    split at h
    · rename_i hfree
      obtain ⟨h1, h⟩ := chk_some h
      obtain ⟨h2, h⟩ := chk_some h
      cases h
      simp only [decide_eq_true_eq] at h1 h2
      simp only [SV.R] at hs hn
      subst hs hn
      have hnb : n ≤ n * i.bytes := by
        have := Int.mul_le_mul_of_nonneg_left (show (1 : Int) ≤ i.bytes by omega) (show 0 ≤ n by omega)
        omega
      have hrun := run_append_zeros (P := P) (w := w) (ty := ty) ht hu hi hz hzs (by omega) h1 h2 hb0
      refine ⟨_, _, hrun, ?_⟩
      have hge := grownCap_ge w n.toNat 0 e
      have hcm : grownCap w n.toNat 0 e ≤ maxLen := grownCap_le_maxLen w n.toNat 0 e (by simp only [maxLen]; omega)
      have hzn : (Builtin.zeroCells z.cells n.toNat).toList = ((Array.range (n.toNat * r.size)).map fun j => z.cells[j % z.cells.size]!).toList ++ [] := by
        rw [List.append_nil]
        simp only [Builtin.zeroCells, hzs, hsz]
      have hlen : ((Array.range (n.toNat * r.size)).map fun j => z.cells[j % z.cells.size]!).toList.length = n.toNat * r.size := by simp
      have hown : (w.drew.alloc (.cells (Builtin.zeroCells z.cells n.toNat ++ Builtin.zeroCells z.cells (grownCap w n.toNat 0 e - n.toNat)) e)).ownsRow 0 e r.size (.slice (some ⟨w.heap.size, 0, none⟩) n.toNat (grownCap w n.toNat 0 e)) n.toNat
          (((Array.range (n.toNat * r.size)).map fun j => z.cells[j % z.cells.size]!).toList ++ []) := by
        refine ⟨by rw [List.append_nil, hlen], .inr ⟨w.heap.size, _, _, rfl, Nat.zero_le _, heap_alloc_new w.drew _, hge, hcm, ?_, ?_⟩⟩
        · simp only [Array.size_append, size_zeroCells, hzs, ← hsz, ← Nat.add_mul]
          congr 1
          omega
        · rw [Array.toList_append, hzn, List.append_nil]
          exact List.take_left' hlen
      have hg : w.grownBy (w.drew.alloc (.cells (Builtin.zeroCells z.cells n.toNat ++ Builtin.zeroCells z.cells (grownCap w n.toNat 0 e - n.toNat)) e)) (Value.ownBlock (.slice none 0 0)) :=
        ⟨rfl, rfl, rfl, by simp, fun k hk _ => RowKit.Below.heap_alloc w.drew _ k hk⟩
      exact post_row0 hm (d := site d) (by simpa using hfree) (old := none) (s := .slice none 0 0) (by intro k l h; cases h) h0 (xs := List.replicate n.toNat r.zero) (by rw [List.length_replicate]; exact hown) hg
        (by intro b hb; simp [Value.ownBlock] at hb) (.inr (by simp [Value.ownBlock])) (fun A' _ => zeros_rows hzr (by omega) _ _) _
    · cases h
  · cases h
theorem zerosT_sound {e : TypeId} {r : Row} {b : Nat} (h : zerosT P e = some (r, b)) : rowOf P e = some r ∧ ∃ i z, P.info? e = some i ∧ i.zero = some z ∧ z.cells.size = i.size ∧ 0 < i.bytes ∧ zeroRow r z.cells.toList = true ∧ i.bytes = b := by
  unfold zerosT at h
  split at h
  · rename_i r' i hr hi
    split at h
    · rename_i z hz
      split at h
      · rename_i hc
        cases h
        exact ⟨hr, i, z, hi, hz, hc.1, hc.2.1, hc.2.2, rfl⟩
      · cases h
    · cases h
  · cases h
theorem ivx_sound {x i : SV} {v : SV} (h : ivx x i some = some v) {vx vi : Value} (hx : x.R w A β vx) (hi : i.R w A β vi) {t : TypeId} (ht : P.underlying t = some .string) : ∃ u, (Instr.index t vx vi).run P w = .ok u w ∧ v.R w A β u := by
  unfold ivx at h
  split at h
  · rename_i s k n
    obtain ⟨h0, h⟩ := chk_some h
    obtain ⟨h1, h⟩ := chk_some h
    cases h
    simp at h0 h1
    simp only [SV.R] at hx hi
    subst hx hi
    have hlt : n.toNat < s.size := by omega
    have hlt' : n.toNat < s.data.toList.length := by simpa using hlt
    refine ⟨_, ?_, rfl⟩
    have he : s[n.toNat]? = some s[n.toNat] := getElem?_pos s n.toNat hlt
    simp only [Instr.index, asIntOf, Sem.run_bind, Sem.run_pure, Result.andThen_ok, run_underlying ht, if_pos h0, he]
    simp only [strAt, List.getD, List.getElem?_eq_getElem hlt', Option.getD_some]
    rfl
  · cases h
theorem rowU8 : (Row.cons (.int .u8) .nil).size = 1 := rfl
theorem b2s_sound {Z : Nat → Prop} {m : Mem} (hm : MR w Z β m) {e : TypeId} {x : SV} {xs : List Int} (h : listOf e (.cons (.int .u8) .nil) x m = some xs) {v : Value} (hx : x.R w (β.away Z) β v) {src dst : TypeId} (hs : P.underlying src = some (.slice e))
    (he : P.underlying e = some (.int .u8)) (hd : P.underlying dst = some .string) : (convert src dst v).run P w = .ok (.string (strOfNums xs)) w := by
  obtain ⟨cells, ad, c, rfl, hle, hl, hpos, hc, hr⟩ := listOf_at hm (by simp [Row.size]) h hx
  rw [rowU8, Nat.mul_one] at hl
  cases ad with
  | none =>
    have hy : xs.length = 0 := by
      rcases Nat.eq_zero_or_pos (List.length xs) with h | h
      · exact h
      · obtain ⟨a, ha⟩ := hpos h; cases ha
    have : xs = [] := List.eq_nil_of_length_eq_zero hy
    subst this
    exact run_convert_bytes_nil w src e hs he 0 c dst hd
  | some a =>
    have hcv : cells = xs.map (Value.int .u8) := by
      apply List.ext_getElem?
      intro j
      by_cases hj : j < xs.length
      · have := hr j hj
        simp only [Row.R, Prim.R, rowU8] at this
        obtain ⟨u, hu, rfl⟩ := this
        rw [Nat.mul_one] at hu
        have h2 : cells[j]? = some (.int .u8 (xs.get ⟨j, hj⟩)) := by
          have := congrArg (fun l => l[0]?) hu
          rw [List.getElem?_take, if_pos (by omega), List.getElem?_drop, Nat.add_zero] at this
          exact this
        rw [h2, List.getElem?_map, List.getElem?_eq_getElem hj]
        rfl
      · rw [List.getElem?_eq_none (by rw [hl]; exact Nat.le_of_not_lt hj), List.getElem?_eq_none (by simp; exact Nat.le_of_not_lt hj)]
    have hload := run_loadCells_list (P := P) w a cells (hc a rfl)
    rw [hl] at hload
    rw [run_convert_bytes_string w src dst e _ _ c hs he hd, run_bytesToString w _ _ c xs (by rw [hload, hcv]), foldl_push_bytes]
    simp [strOfNums, ByteArray.empty, ByteArray.emptyWithCapacity]
    rfl
end
end Go.Proofs.YtgakbdikappdbaaGreat.S2
set_option linter.unusedVariables false
set_option linter.unusedSimpArgs false
namespace Go.Proofs.YtgakbdikappdbaaGreat.S2
open Go
section
variable {P : Program} {w : World} {A : Nat → Prop} {β : Loc}
theorem plainOf_tk {t : TypeId} {p : Prim} (h : plainOf P t = some p) : (∃ k, p = .int k ∧ P.underlying t = some (.int k)) ∨ (p = .bool ∧ P.underlying t = some .bool) ∨ (p = .str ∧ P.underlying t = some .string) := by
  unfold plainOf at h
  split at h
  · rename_i k hk; cases h; exact .inl ⟨k, rfl, hk⟩
  · rename_i hk; cases h; exact .inr (.inl ⟨rfl, hk⟩)
  · rename_i hk; cases h; exact .inr (.inr ⟨rfl, hk⟩)
  · cases h
theorem plain_check {t : TypeId} {p : Prim} (h : plainOf P t = some p) (em : Bool) (n : Nat) (v : Value) : (Instr.checkKey em (n + 1) t v).run P w = .ok () w := by
  unfold Instr.checkKey
  rcases plainOf_tk h with ⟨k, _, hk⟩ | ⟨_, hk⟩ | ⟨_, hk⟩ <;> simp only [Sem.run_bind, run_underlying hk, Result.andThen] <;> cases v <;> rfl
theorem bytes_eqb (x y : ByteArray) : ((x == y) : Bool) = (x.toList == y.toList) ∧ ((x.toList == y.toList) = true → x = y) := by
  have hb : x.toList = y.toList → x = y := by
    intro e
    rw [ByteArray.toList_eq, ByteArray.toList_eq] at e
    have e' : x.data = y.data := Array.toList_inj.1 e
    cases x; cases y; simp at e'; rw [e']
  refine ⟨?_, fun e => hb (beq_iff_eq.1 e)⟩
  have e1 : ((x == y) : Bool) = (x.data == y.data) := by cases x; cases y; rfl
  rw [e1, Bool.eq_iff_iff, beq_iff_eq, beq_iff_eq]
  exact ⟨fun e => by rw [ByteArray.toList_eq, ByteArray.toList_eq, e], fun e => by rw [hb e]⟩
theorem int_eq {t : TypeId} {k : IntKind} (hk : P.underlying t = some (.int k)) (x y : Int) : ((x == y) = true → Value.int k x = Value.int k y) ∧ (∀ d, P.underlying t = some d → Instr.sameNow d (.int k x) (.int k y) = some (x == y)) ∧ (∀ d, (Op.equalIn (d + 1) t (.int k x) (.int k y)).run P w = .ok (x == y) w) := by
  refine ⟨fun e => by rw [beq_iff_eq.1 e], fun d hd => ?_, fun d => run_equalIn_int w d t k k _ _ hk⟩
  rw [hk] at hd; cases hd
  simp [Instr.sameNow]
theorem bool_eq {t : TypeId} (hk : P.underlying t = some .bool) (x y : Bool) : ((x == y) = true → Value.bool x = Value.bool y) ∧ (∀ d, P.underlying t = some d → Instr.sameNow d (.bool x) (.bool y) = some (x == y)) ∧ (∀ d, (Op.equalIn (d + 1) t (.bool x) (.bool y)).run P w = .ok (x == y) w) := by
  refine ⟨fun e => by rw [beq_iff_eq.1 e], fun d hd => ?_, fun d => run_equalIn_bool' w d t _ _ hk⟩
  rw [hk] at hd; cases hd
  simp [Instr.sameNow]
theorem str_eq {t : TypeId} (hk : P.underlying t = some .string) (x y : ByteArray) : ((x.toList == y.toList) = true → Value.string x = Value.string y) ∧ (∀ d, P.underlying t = some d → Instr.sameNow d (.string x) (.string y) = some (x.toList == y.toList)) ∧ (∀ d, (Op.equalIn (d + 1) t (.string x) (.string y)).run P w = .ok (x.toList == y.toList) w) := by
  refine ⟨fun e => by rw [(bytes_eqb x y).2 e], fun d hd => ?_, fun d => run_equalIn_string w d t _ _ hk⟩
  rw [hk] at hd; cases hd
  simp only [Instr.sameNow, (bytes_eqb x y).1]
theorem prim_eq {t : TypeId} {p : Prim} (h : plainOf P t = some p) {x y : p.T} {v v' : Value} (hx : p.R w A x v) (hy : p.R w A y v') : (p.eqb x y = true → v = v') ∧ (∀ d, P.underlying t = some d → Instr.sameNow d v v' = some (p.eqb x y)) ∧ (∀ d, (Op.equalIn (d + 1) t v v').run P w = .ok (p.eqb x y) w) := by
  rcases plainOf_tk h with ⟨k, rfl, hk⟩ | ⟨rfl, hk⟩ | ⟨rfl, hk⟩
  · simp only [Prim.R] at hx hy
    subst hx hy
    exact int_eq hk x y
  · simp only [Prim.R] at hx hy
    subst hx hy
    exact bool_eq hk x y
  · simp only [Prim.R] at hx hy
    subst hx hy
    exact str_eq hk x y
theorem fields_eq {d : Nat} (xs ys : Array Value) : ∀ (fs : List Field) (n : Nat) (ks : List TK) (ps : List Prim) (x y : (Row.ofList ps).T) (vs vs' : List Value), plainFrom P n fs = some ks → allSome (fun f : Field => plainOf P f.type) fs = some ps →
    (Row.ofList ps).R w A x vs → (Row.ofList ps).R w A y vs' → (∀ i u, vs[i]? = some u → xs[n + i]? = some u) → (∀ i u, vs'[i]? = some u → ys[n + i]? = some u) →
    (Op.eqFields (d + 1) xs ys fs).run P w = .ok ((Row.ofList ps).eqb x y) w ∧ ((Row.ofList ps).eqb x y = true → vs = vs')
  | [], n, ks, ps, x, y, vs, vs', hp, hps, hx, hy, h1, h2 => by
    simp [allSome] at hps
    subst hps
    simp only [Row.ofList, Row.R] at hx hy
    subst hx hy
    exact ⟨rfl, fun _ => rfl⟩
  | f :: fs, n, ks, ps, x, y, vs, vs', hp, hps, hx, hy, h1, h2 => by
    simp only [plainFrom] at hp
    simp only [allSome] at hps
    split at hps
    · rename_i p ps' hpf hps'
      cases hps
      split at hp
      · rename_i hf
        obtain ⟨ho, hn, ht, _⟩ := hf
        split at hp
        · rename_i ks' hks
          cases hp
          match ps', hps', x, y, hx, hy with
          | [], hps', x, y, hx, hy =>
            simp only [Row.ofList, Row.R] at hx hy
            obtain ⟨v, rfl, hxv⟩ := hx
            obtain ⟨v', rfl, hyv⟩ := hy
            have hx0 := h1 0 v rfl
            have hy0 := h2 0 v' rfl
            simp only [Nat.add_zero] at hx0 hy0
            obtain ⟨e1, _, e3⟩ := prim_eq hpf hxv hyv
            have ih := fields_eq (d := d) xs ys fs (n + 1) ks' [] () () [] [] hks hps' rfl rfl (fun i u hu => by simp at hu) (fun i u hu => by simp at hu)
            rw [show (Row.ofList []).eqb () () = true from rfl] at ih
            refine ⟨?_, fun e => by rw [e1 e]⟩
            simp only [Op.eqFields, if_pos hn, Sem.run_bind, ho, run_part_one ht xs n v hx0, run_part_one ht ys n v' hy0, Result.andThen_ok, e3]
            show _ = Result.ok (p.eqb x y) w
            cases hb : p.eqb x y
            · simp
            · simpa using ih.1
          | q :: ps'', hps', x, y, hx, hy =>
            simp only [Row.ofList, Row.R] at hx hy
            obtain ⟨v, us, rfl, hxv, hxr⟩ := hx
            obtain ⟨v', us', rfl, hyv, hyr⟩ := hy
            have hx0 := h1 0 v rfl
            have hy0 := h2 0 v' rfl
            simp only [Nat.add_zero] at hx0 hy0
            obtain ⟨e1, _, e3⟩ := prim_eq hpf hxv hyv
            have ih := fields_eq (d := d) xs ys fs (n + 1) ks' (q :: ps'') x.2 y.2 us us' hks hps' hxr hyr
              (fun i u hu => by have := h1 (i + 1) u (by simpa using hu); rwa [show n + (i + 1) = n + 1 + i by omega] at this)
              (fun i u hu => by have := h2 (i + 1) u (by simpa using hu); rwa [show n + (i + 1) = n + 1 + i by omega] at this)
            have hb0 : (Row.ofList (p :: q :: ps'')).eqb x y = (p.eqb x.1 y.1 && (Row.ofList (q :: ps'')).eqb x.2 y.2) := rfl
            refine ⟨?_, fun e => ?_⟩
            · simp only [Op.eqFields, if_pos hn, Sem.run_bind, ho, run_part_one ht xs n v hx0, run_part_one ht ys n v' hy0, Result.andThen_ok, e3, hb0]
              cases hb : p.eqb x.1 y.1
              · simp
              · simpa using ih.1
            · rw [hb0, Bool.and_eq_true] at e
              rw [e1 e.1, ih.2 e.2]
        · cases hp
      · cases hp
    · cases hps
theorem keyT_cases {k : TypeId} {kr : Row} {agg : Bool} (h : keyT P k = some (kr, agg)) : (∃ p, plainOf P k = some p ∧ kr = .cons p .nil ∧ agg = false) ∨
    (∃ fs ks ps, P.underlying k = some (.struct fs) ∧ P.stoodInHeld k = false ∧ P.eqGuardType P.depth k = false ∧ plainFrom P 0 fs.toList = some ks ∧ allSome (fun f : Field => plainOf P f.type) fs.toList = some ps ∧ kr = Row.ofList ps ∧ agg = true) := by
  unfold keyT at h
  split at h
  · rename_i p hp
    cases h
    exact .inl ⟨p, hp, rfl, rfl⟩
  · split at h
    · rename_i fs ks hfs hks
      split at h
      · rename_i ps hps
        cases h
        unfold plainEq at hks
        rw [hfs] at hks
        simp only at hks
        split at hks
        · rename_i hc
          exact .inr ⟨fs, ks, ps, hfs, hc.1, hc.2, hks, hps, rfl, rfl⟩
        · cases hks
      · cases h
    · cases h
theorem key_eq {k : TypeId} {kr : Row} {agg : Bool} (h : keyT P k = some (kr, agg)) {x y : kr.T} {v v' : Value} (hx : keyR w A kr agg x v) (hy : keyR w A kr agg y v') :
    (kr.eqb x y = true → v = v') ∧ (∀ d, P.underlying k = some d → Instr.sameNow d v v' = some (kr.eqb x y) ∨ (Instr.sameNow d v v' = none ∧ (Op.equal k v v').run P w = .ok (kr.eqb x y) w)) := by
  rcases keyT_cases h with ⟨p, hp, rfl, rfl⟩ | ⟨fs, ks, ps, hfs, hsh, heg, hks, hps, rfl, rfl⟩
  · simp only [keyR, Row.R] at hx hy
    obtain ⟨_, h1, hx⟩ := hx
    obtain ⟨_, h2, hy⟩ := hy
    simp at h1 h2
    subst h1 h2
    obtain ⟨e1, e2, _⟩ := prim_eq hp hx hy
    exact ⟨e1, fun d hd => .inl (e2 d hd)⟩
  · simp only [keyR] at hx hy
    obtain ⟨cs, rfl, hx⟩ := hx
    obtain ⟨cs', rfl, hy⟩ := hy
    have hfo : P.fieldsOf k = fs := by simp [Program.fieldsOf, hfs]
    have ht : P.underlying k = some (.struct (P.fieldsOf k)) := by rw [hfo]; exact hfs
    have he := fields_eq (d := 9998) (P := P) cs.toArray cs'.toArray fs.toList 0 ks ps x y cs cs' hks hps hx hy (fun i u hu => by simpa using hu) (fun i u hu => by simpa using hu)
    refine ⟨fun e => by rw [he.2 e], fun d hd => .inr ?_⟩
    rw [hfs] at hd
    cases hd
    refine ⟨rfl, ?_⟩
    have : (Op.equalIn 10000 k (.agg cs.toArray) (.agg cs'.toArray)).run P w = .ok ((Row.ofList ps).eqb x y) w := by
      rw [run_equalIn_agg w 9999 k _ _ ht hsh, hfo]
      exact he.1
    simp only [Op.equal, Op.maxDepth, this]
theorem check_fields {em : Bool} {d : Nat} (cs : Array Value) : ∀ (fs : List Field) (n : Nat) (ks : List TK) (ps : List Prim) (x : (Row.ofList ps).T) (vs : List Value), plainFrom P n fs = some ks → allSome (fun f : Field => plainOf P f.type) fs = some ps →
    (Row.ofList ps).R w A x vs → (∀ i u, vs[i]? = some u → cs[n + i]? = some u) →
    (forIn fs PUnit.unit fun f (_ : PUnit) => (do
      if f.name ≠ "_" then
        Instr.checkKey em (d + 1) f.type (← part f.type cs f.offset)
        pure (ForInStep.yield PUnit.unit)
      else
        pure PUnit.unit
        pure (ForInStep.yield PUnit.unit) : Sem (ForInStep PUnit))).run P w = .ok PUnit.unit w
  | [], n, ks, ps, x, vs, hp, hps, hx, h1 => by simp
  | f :: fs, n, ks, ps, x, vs, hp, hps, hx, h1 => by
    simp only [plainFrom] at hp
    simp only [allSome] at hps
    split at hps
    · rename_i p ps' hpf hps'
      cases hps
      split at hp
      · rename_i hf
        obtain ⟨ho, hn, ht, _⟩ := hf
        split at hp
        · rename_i ks' hks
          cases hp
          have hgo : ∃ (v : Value) (us : List Value) (x' : (Row.ofList ps').T), vs = v :: us ∧ (Row.ofList ps').R w A x' us := by
            clear hps'
            cases ps' with
            | nil =>
              simp only [Row.ofList, Row.R] at hx
              obtain ⟨v, hv, _⟩ := hx
              exact ⟨v, [], (), hv, rfl⟩
            | cons q ps'' =>
              simp only [Row.ofList, Row.R] at hx
              obtain ⟨v, us, hv, _, hr⟩ := hx
              exact ⟨v, us, x.2, hv, hr⟩
          obtain ⟨v, us, x', rfl, hr⟩ := hgo
          have hx0 := h1 0 v rfl
          simp only [Nat.add_zero] at hx0
          have ih := check_fields (em := em) (d := d) cs fs (n + 1) ks' ps' x' us hks hps' hr (fun i u hu => by have := h1 (i + 1) u (by simpa using hu); rwa [show n + (i + 1) = n + 1 + i by omega] at this)
          rw [List.forIn_cons]
          simp only [ne_eq, hn, not_false_eq_true, if_true, ho, Sem.run_bind, run_part_one ht cs n v hx0, Result.andThen_ok, plain_check hpf, Sem.run_pure]
          exact ih
        · cases hp
      · cases hp
    · cases hps
theorem key_check {k : TypeId} {kr : Row} {agg : Bool} (h : keyT P k = some (kr, agg)) {x : kr.T} {v : Value} (hx : keyR w A kr agg x v) (em : Bool) : (Instr.checkKey em 10000 k v).run P w = .ok () w := by
  rcases keyT_cases h with ⟨p, hp, rfl, rfl⟩ | ⟨fs, ks, ps, hfs, hsh, heg, hks, hps, rfl, rfl⟩
  · exact plain_check hp em 9999 v
  · simp only [keyR] at hx
    obtain ⟨cs, rfl, hx⟩ := hx
    have := check_fields (P := P) (em := em) (d := 9998) cs.toArray fs.toList 0 ks ps x cs hks hps hx (fun i u hu => by simpa using hu)
    unfold Instr.checkKey
    simp only [Sem.run_bind, run_underlying hfs, Result.andThen_ok]
    rw [← Array.forIn_toList]
    simp at this ⊢
    rw [this]
    rfl
theorem find_R {k : TypeId} {kr : Row} {agg : Bool} {vp : Prim} (h : keyT P k = some (kr, agg)) {x : kr.T} {v : Value} (hx : keyR w A kr agg x v) : ∀ (i : Nat) (es : List (kr.T × vp.T)) (l : List MapEntry) (i0 : Nat), EntriesR w A kr agg vp i0 es l →
    ∃ r, (∀ d, P.underlying k = some d → ((Instr.findNow d v l i = some r) ∨ (Instr.findNow d v l i = none ∧ (Instr.findAsking k v l i).run P w = .ok r w) ∨ (l ≠ [] ∧ False))) ∧
      ((mfind kr.eqb x es = none ∧ r = none ∧ mpos kr.eqb x es = es.length) ∨
       ∃ y u, mfind kr.eqb x es = some y ∧ r = some (i + mpos kr.eqb x es, u) ∧ vp.R w A y u ∧ mpos kr.eqb x es < es.length ∧ ∃ e, l[mpos kr.eqb x es]? = some e ∧ e.val = u ∧ e.key = v ∧ e.born = i0 + mpos kr.eqb x es)
  | i, [], l, i0, he => by
    rw [show l = [] from he]
    exact ⟨none, fun d hd => .inl rfl, .inl ⟨rfl, rfl, rfl⟩⟩
  | i, e :: es, l, i0, he => by
    obtain ⟨z, l', rfl, hb, hk, hv, hr⟩ := he
    obtain ⟨k1, k2⟩ := key_eq h hx hk
    obtain ⟨r, f1, f2⟩ := find_R h hx (i + 1) es l' (i0 + 1) hr
    cases hq : kr.eqb x e.1 with
    | true =>
      have hve := k1 hq
      refine ⟨some (i, z.val), fun d hd => ?_, .inr ⟨e.2, z.val, ?_, ?_, hv, ?_, z, ?_, rfl, hve.symm, ?_⟩⟩
      · rcases k2 d hd with h1 | ⟨h1, h2⟩
        · rw [hq] at h1
          left
          simp only [Instr.findNow, h1]
        · rw [hq] at h2
          right; left
          exact ⟨by simp only [Instr.findNow, h1], by simp only [Instr.findAsking, Sem.run_bind, h2, Result.andThen_ok, if_true, Sem.run_pure]⟩
      · simp only [mfind, hq]
      · simp only [mpos, hq, Nat.add_zero]
      · simp only [mpos, hq, List.length_cons]; omega
      · simp only [mpos, hq]; rfl
      · simp only [mpos, hq, Nat.add_zero]; exact hb
    | false =>
      refine ⟨r, fun d hd => ?_, ?_⟩
      · rcases k2 d hd with h1 | ⟨h1, h2⟩
        · rw [hq] at h1
          rcases f1 d hd with g | ⟨g1, g2⟩ | g
          · left; simp only [Instr.findNow, h1]; exact g
          · right; left
            refine ⟨by simp only [Instr.findNow, h1]; exact g1, ?_⟩
            rcases keyT_cases h with ⟨p, hp, rfl, rfl⟩ | ⟨fs, ks, ps, hfs, hsh, heg, hks, hps, rfl, rfl⟩
            · simp only [keyR, Row.R] at hx hk
              obtain ⟨_, q1, hx'⟩ := hx
              obtain ⟨_, q2, hk'⟩ := hk
              simp at q1 q2
              subst q1
              have e3 := (prim_eq hp hx' (q2 ▸ hk')).2.2 9999
              have e3' : (Op.equal k v z.key).run P w = .ok (p.eqb x e.1) w := by simp only [Op.equal, Op.maxDepth, e3]
              have hq' : p.eqb x e.1 = false := hq
              simp only [Instr.findAsking, Sem.run_bind, e3', hq', Result.andThen_ok, Bool.false_eq_true, if_false]
              exact g2
            · rw [hfs] at hd; cases hd; cases h1
          · exact g.2.elim
        · rw [hq] at h2
          right; left
          refine ⟨by simp only [Instr.findNow, h1], ?_⟩
          simp only [Instr.findAsking, Sem.run_bind, h2, Result.andThen_ok, Bool.false_eq_true, if_false]
          rcases f1 d hd with g | ⟨g1, g2⟩ | g
          · -- the model would have known at once: only if nothing is left
            have : l' = [] := by
              rcases keyT_cases h with ⟨p, hp, rfl, rfl⟩ | ⟨fs, ks, ps, hfs, hsh, heg, hks, hps, rfl, rfl⟩
              · exfalso
                rcases plainOf_tk hp with ⟨k', rfl, hk'⟩ | ⟨rfl, hk'⟩ | ⟨rfl, hk'⟩ <;> rw [hk'] at hd <;> cases hd <;> simp only [keyR, Row.R] at hx hk <;> obtain ⟨_, q1, hx'⟩ := hx <;> obtain ⟨_, q2, hk''⟩ := hk <;> simp at q1 q2 <;> subst q1 <;> simp only [Prim.R] at hx' hk'' <;> rw [hx', q2, hk''] at h1 <;> simp [Instr.sameNow] at h1
              · rw [hfs] at hd; cases hd
                cases l' with
                | nil => rfl
                | cons z' l'' => simp [Instr.findNow, Instr.sameNow] at g
            subst this
            simp only [Instr.findNow] at g
            cases g
            rfl
          · exact g2
          · exact g.2.elim
      · rcases f2 with ⟨h1, h2, h3⟩ | ⟨y, u, h1, h2, h3, h4, z', h5, h6, h7, h8⟩
        · left
          exact ⟨by simp only [mfind, hq]; exact h1, h2, by simp only [mpos, hq, List.length_cons, h3]⟩
        · right
          refine ⟨y, u, by simp only [mfind, hq]; exact h1, ?_, h3, by simp only [mpos, hq, List.length_cons]; omega, z', ?_, h6, h7, ?_⟩
          · rw [h2]; simp only [mpos, hq]; rw [show i + 1 + mpos kr.eqb x es = i + (mpos kr.eqb x es + 1) by omega]
          · simp only [mpos, hq]; exact h5
          · simp only [mpos, hq]; omega
theorem key_find {k : TypeId} {kr : Row} {agg : Bool} {vp : Prim} (h : keyT P k = some (kr, agg)) {x : kr.T} {v : Value} (hx : keyR w A kr agg x v) {es : List (kr.T × vp.T)} {l : List MapEntry} (he : EntriesR w A kr agg vp 0 es l) :
    ((Instr.findKey k v l).run P w = .ok none w ∧ mfind kr.eqb x es = none ∧ mpos kr.eqb x es = es.length) ∨
    ∃ y u, (Instr.findKey k v l).run P w = .ok (some (mpos kr.eqb x es, u)) w ∧ mfind kr.eqb x es = some y ∧ vp.R w A y u ∧ mpos kr.eqb x es < es.length ∧ ∃ e, l[mpos kr.eqb x es]? = some e ∧ e.val = u ∧ e.key = v ∧ e.born = mpos kr.eqb x es := by
  obtain ⟨r, f1, f2⟩ := find_R h hx 0 es l 0 he
  have hrun : (Instr.findKey k v l).run P w = .ok r w := by
    obtain ⟨d, hd⟩ : ∃ d, P.underlying k = some d := by
      rcases keyT_cases h with ⟨p, hp, _, _⟩ | ⟨fs, ks, ps, hfs, _⟩
      · rcases plainOf_tk hp with ⟨k', _, hk'⟩ | ⟨_, hk'⟩ | ⟨_, hk'⟩ <;> exact ⟨_, hk'⟩
      · exact ⟨_, hfs⟩
    unfold Instr.findKey
    simp only [Sem.run_bind, run_underlying hd, Result.andThen_ok]
    rcases f1 d hd with g | ⟨g1, g2⟩ | g
    · rw [g]; rfl
    · rw [g1]; exact g2
    · exact g.2.elim
  rcases f2 with ⟨h1, h2, h3⟩ | ⟨y, u, h1, h2, h3, h4, e, h5, h6, h7, h8⟩
  · rw [h2] at hrun
    exact .inl ⟨hrun, h1, h3⟩
  · rw [h2, Nat.zero_add] at hrun
    exact .inr ⟨y, u, hrun, h1, h3, h4, e, h5, h6, h7, by omega⟩
theorem same_int (n : Nat) (k : IntKind) (x : Int) : Instr.sameBits n (.int k x) (.int k x) = true := by cases n <;> simp [Instr.sameBits]
theorem same_bool (n : Nat) (x : Bool) : Instr.sameBits n (.bool x) (.bool x) = true := by cases n <;> simp [Instr.sameBits]
theorem same_str (n : Nat) (x : ByteArray) : Instr.sameBits n (.string x) (.string x) = true := by
  have e := (bytes_eqb x x).1.trans (beq_self_eq_true x.toList)
  cases n <;> simp only [Instr.sameBits] <;> exact e
theorem prim_same {t : TypeId} {p : Prim} (h : plainOf P t = some p) {x : p.T} {v : Value} (hx : p.R w A x v) (n : Nat) : Instr.sameBits n v v = true := by
  rcases plainOf_tk h with ⟨k, rfl, _⟩ | ⟨rfl, _⟩ | ⟨rfl, _⟩ <;> simp only [Prim.R] at hx <;> subst hx
  · exact same_int n k x
  · exact same_bool n x
  · exact same_str n x
theorem fields_same {n : Nat} : ∀ (fs : List Field) (ps : List Prim) (x : (Row.ofList ps).T) (vs : List Value), allSome (fun f : Field => plainOf P f.type) fs = some ps → (Row.ofList ps).R w A x vs →
    (vs.zip vs).all (fun (q : Value × Value) => Instr.sameBits n q.1 q.2) = true
  | [], ps, x, vs, hps, hx => by
    simp [allSome] at hps
    subst hps
    simp only [Row.ofList, Row.R] at hx
    subst hx
    rfl
  | f :: fs, ps, x, vs, hps, hx => by
    simp only [allSome] at hps
    split at hps
    · rename_i p ps' hpf hps'
      cases hps
      cases ps' with
      | nil =>
        simp only [Row.ofList, Row.R] at hx
        obtain ⟨v, rfl, hxv⟩ := hx
        simp [prim_same hpf hxv]
      | cons q ps'' =>
        simp only [Row.ofList, Row.R] at hx
        obtain ⟨v, us, rfl, hxv, hxr⟩ := hx
        have ih := fields_same (n := n) fs (q :: ps'') x.2 us hps' hxr
        simp only [List.zip_cons_cons, List.all_cons, prim_same hpf hxv, Bool.true_and]
        exact ih
    · cases hps
theorem key_stays {k : TypeId} {kr : Row} {agg : Bool} (h : keyT P k = some (kr, agg)) {x : kr.T} {v : Value} (hx : keyR w A kr agg x v) : (Instr.keyThatStays v v).run P w = .ok v w := by
  have hs : Instr.sameBits 10000 v v = true := by
    rcases keyT_cases h with ⟨p, hp, rfl, rfl⟩ | ⟨fs, ks, ps, hfs, hsh, heg, hks, hps, rfl, rfl⟩
    · simp only [keyR, Row.R] at hx
      obtain ⟨_, q1, hx⟩ := hx
      simp at q1
      subst q1
      exact prim_same hp hx _
    · simp only [keyR] at hx
      obtain ⟨cs, rfl, hx⟩ := hx
      have := fields_same (P := P) (n := 9999) fs.toList ps x cs hps hx
      simp only [Instr.sameBits, beq_self_eq_true, Bool.true_and]
      simpa using this
  simp [Instr.keyThatStays, hs]
theorem EntriesR.push {kr : Row} {agg : Bool} {vp : Prim} {x : kr.T} {y : vp.T} {v u : Value} (hx : keyR w A kr agg x v) (hy : vp.R w A y u) : ∀ {i : Nat} {es : List (kr.T × vp.T)} {l : List MapEntry}, EntriesR w A kr agg vp i es l →
    EntriesR w A kr agg vp i (es ++ [(x, y)]) (l ++ [{ key := v, val := u, born := i + es.length }])
  | i, [], l, h => by
    rw [show l = [] from h]
    exact ⟨_, [], rfl, rfl, hx, hy, rfl⟩
  | i, e :: es, l, h => by
    obtain ⟨z, l', rfl, h1, h2, h3, h4⟩ := h
    refine ⟨z, _, rfl, h1, h2, h3, ?_⟩
    have := EntriesR.push hx hy h4
    rw [show i + 1 + es.length = i + (e :: es).length by simp; omega] at this
    exact this
theorem EntriesR.modify {kr : Row} {agg : Bool} {vp : Prim} {y : vp.T} {u : Value} (hy : vp.R w A y u) (f : MapEntry → MapEntry) (hf : ∀ e, (f e).val = u ∧ (f e).born = e.born) : ∀ {i j : Nat} {es : List (kr.T × vp.T)} {l : List MapEntry}, EntriesR w A kr agg vp i es l → (∀ e, l[j]? = some e → (f e).key = e.key) →
    EntriesR w A kr agg vp i (es.modify j fun e => (e.1, y)) (l.modify j f)
  | i, j, [], l, h, hk => by
    rw [show l = [] from h]
    simp [EntriesR]
  | i, 0, e :: es, l, h, hk => by
    obtain ⟨z, l', rfl, h1, h2, h3, h4⟩ := h
    have hkz := hk z rfl
    simp only [List.modify_zero_cons]
    refine ⟨f z, l', rfl, by rw [(hf z).2]; exact h1, by rw [hkz]; exact h2, by rw [(hf z).1]; exact hy, h4⟩
  | i, j + 1, e :: es, l, h, hk => by
    obtain ⟨z, l', rfl, h1, h2, h3, h4⟩ := h
    simp only [List.modify_succ_cons]
    exact ⟨z, _, rfl, h1, h2, h3, EntriesR.modify hy f hf h4 fun e he => hk e (by simpa using he)⟩
theorem EntriesR.same {kr : Row} {agg : Bool} {vp : Prim} (f : MapEntry → MapEntry) (hf : ∀ e, (f e).val = e.val ∧ (f e).born = e.born) : ∀ {i j : Nat} {es : List (kr.T × vp.T)} {l : List MapEntry}, EntriesR w A kr agg vp i es l → (∀ e, l[j]? = some e → (f e).key = e.key) →
    EntriesR w A kr agg vp i es (l.modify j f)
  | i, j, [], l, h, hk => by
    rw [show l = [] from h]
    simp [EntriesR]
  | i, 0, e :: es, l, h, hk => by
    obtain ⟨z, l', rfl, h1, h2, h3, h4⟩ := h
    have hkz := hk z rfl
    simp only [List.modify_zero_cons]
    refine ⟨f z, l', rfl, by rw [(hf z).2]; exact h1, by rw [hkz]; exact h2, by rw [(hf z).1]; exact h3, h4⟩
  | i, j + 1, e :: es, l, h, hk => by
    obtain ⟨z, l', rfl, h1, h2, h3, h4⟩ := h
    simp only [List.modify_succ_cons]
    exact ⟨z, _, rfl, h1, h2, h3, EntriesR.same f hf h4 fun e he => hk e (by simpa using he)⟩
section
variable {κ ν : Type} {eq : κ → κ → Bool} {k : κ}
theorem mput_none {v : ν} : ∀ {es : List (κ × ν)}, mfind eq k es = none → mput eq k v es = es ++ [(k, v)]
  | [], _ => rfl
  | e :: es, h => by
    cases hq : eq k e.1 with
    | true => simp [mfind, hq] at h
    | false =>
      simp only [mfind, hq] at h
      simp only [mput, hq, mput_none h, List.cons_append]
theorem mput_some {v y : ν} : ∀ {es : List (κ × ν)}, mfind eq k es = some y → mput eq k v es = es.modify (mpos eq k es) fun e => (e.1, v)
  | [], h => by cases h
  | e :: es, h => by
    cases hq : eq k e.1 with
    | true => simp [mput, mpos, hq]
    | false =>
      simp only [mfind, hq] at h
      simp only [mput, mpos, hq, mput_some h, List.modify_succ_cons]
theorem ment_none {z : ν} : ∀ {es : List (κ × ν)}, mfind eq k es = none → ment eq z k es = es ++ [(k, z)]
  | [], _ => rfl
  | e :: es, h => by
    cases hq : eq k e.1 with
    | true => simp [mfind, hq] at h
    | false =>
      simp only [mfind, hq] at h
      simp only [ment, hq, ment_none h, List.cons_append]
theorem ment_some {z y : ν} : ∀ {es : List (κ × ν)}, mfind eq k es = some y → ment eq z k es = es
  | [], h => by cases h
  | e :: es, h => by
    cases hq : eq k e.1 with
    | true => simp [ment, hq]
    | false =>
      simp only [mfind, hq] at h
      simp only [ment, hq, ment_some h]
end
end
section
variable {P : Program} {w : World} {Z : Nat → Prop} {β : Loc} {m : Mem}
theorem MR.congr0 {w : World} {Z : Nat → Prop} {β : Loc} {m m' : Mem} (h : MR w Z β m) (he : ∀ q, m'.get q = m.get q) : MR w Z β m' :=
  ⟨fun k o ho => h.obs k o ((he k) ▸ ho), fun k l hl => by rw [he k]; exact h.dom k l hl, h.inj, h.apart, h.old⟩
theorem mapOf_get {kr : Row} {agg : Bool} {vp : Prim} {q : Nat} {es : List (kr.T × vp.T)} (h : mapOf kr agg vp q m = some es) : m.get q = some (.map kr agg vp es) := by
  unfold mapOf at h
  split at h
  · rename_i kr' agg' vp' es' hg
    split at h
    · rename_i hh
      split at h
      · rename_i ha
        obtain ⟨rfl, rfl⟩ := hh
        subst ha
        cases h
        exact hg
      · cases h
    · cases h
  · cases h
theorem keyOfV_R {A : Nat → Prop} {kr : Row} {agg : Bool} {k : SV} {x : kr.T} {v : Value} (h : keyOfV kr agg k = some x) (hk : k.R w A β v) : keyR w A kr agg x v := by
  unfold keyOfV at h
  split at h
  · rename_i cs
    simp only [SV.R] at hk
    obtain ⟨vs, rfl, hl, _⟩ := hk
    exact ⟨vs, rfl, Row.of_R kr cs x vs h hl⟩
  · cases h
  · cases h
  · exact Row.of_R kr [k] x [v] h ⟨v, [], rfl, hk, rfl⟩
theorem mapT_sound {t : TypeId} {kr : Row} {agg : Bool} {vp : Prim} (h : mapT P t = some (kr, agg, vp)) : ∃ k e i z, P.underlying t = some (.map k e) ∧ keyT P k = some (kr, agg) ∧ P.info? e = some i ∧ i.zero = some z ∧ ∀ (w : World) (A : Nat → Prop), vp.R w A vp.zero z := by
  unfold mapT at h
  split at h
  · rename_i k e hke
    split at h
    · rename_i kr' agg' vp' i hk hp hi
      split at h
      · rename_i z hz
        split at h
        · rename_i hzr
          cases h
          refine ⟨k, e, i, z, hke, hk, hi, hz, fun w A => ?_⟩
          have := zeroRow_R (w := w) (A := A) (.cons vp .nil) [z] hzr
          simp only [Row.R] at this
          obtain ⟨v, hv, hr⟩ := this
          simp at hv
          subst hv
          exact hr
        · cases h
      · cases h
    · cases h
  · cases h
theorem map_obj (hm : MR w Z β m) {q : Nat} {kr : Row} {agg : Bool} {vp : Prim} {es : List (kr.T × vp.T)} (hq : m.get q = some (.map kr agg vp es)) {v : Value} (hv : (SV.mp q).R w (β.away Z) β v) :
    ∃ b l, β q = some (.map b) ∧ v = .map (some b) ∧ w.heap[b]? = some (.map l es.length) ∧ EntriesR w (β.away Z) kr agg vp 0 es l.toList := by
  simp only [SV.R] at hv
  obtain ⟨l, hl, ha⟩ := hv
  obtain ⟨l', hl', hob⟩ := hm.obs q _ hq
  rw [hl] at hl'
  cases hl'
  cases l with
  | map b =>
    obtain ⟨l, hh, he⟩ := hob
    exact ⟨b, l, hl, ha, hh, he⟩
  | box b => exact hob.elim
  | row ad cap n sz e => exact hob.elim
  | froz ad cap n sz e => exact hob.elim
  | gone => exact hob.elim
theorem map_put (hm : MR w Z β m) {q b : Nat} {kr : Row} {agg : Bool} {vp : Prim} {es es' : List (kr.T × vp.T)} (hq : m.get q = some (.map kr agg vp es)) (hb : β q = some (.map b)) {o : Obj} (ho : w.heap[b]? = some o) {l' : Array MapEntry}
    (he : EntriesR w (β.away Z) kr agg vp 0 es' l'.toList) {x : SV} {u : Value} (hx : x.R w (β.away Z) β u) (fp : List Nat) :
    PostE Z w β m ⟨x, [(q, .map kr agg vp es')], fp⟩ u { w with heap := w.heap.setIfInBounds b (.map l' es'.length) } := by
  have hlt : b < w.heap.size := (Array.getElem?_eq_some_iff.1 ho).1
  have hown : β.owned b := ⟨q, _, hb, rfl⟩
  have hother : ∀ b', b' ≠ b → (w.heap.setIfInBounds b (.map l' es'.length))[b']? = w.heap[b']? := fun b' hne => by simp [Ne.symm hne]
  have hs : Step w { w with heap := w.heap.setIfInBounds b (.map l' es'.length) } β β := ⟨rfl, rfl, rfl, by simp, fun b' hb' hn => hother b' (fun e => hn (e ▸ hown)), fun b' h => .inl h, Loc.le_refl β⟩
  refine ⟨β, hs, ?_, SV.R_step hs.stays hs.le _ _ hx⟩
  refine hm.update (fun p => p = q) hs (fun p hp => ⟨rfl, by simp only [Mem.sets]; rw [Mem.get_set, if_neg hp]⟩) (fun p l0 b' hp hl0 hb' => hother b' fun e => hp (hm.inj p q l0 (.map b) b hl0 hb (e ▸ hb') rfl)) (fun p o' hp hg => ?_) (fun p l0 hp hl0 => ?_) (fun p l0 b' hp hl0 hb' => ?_)
  · subst hp
    simp only [Mem.sets] at hg
    rw [Mem.get_set, if_pos rfl] at hg
    cases hg
    exact ⟨.map b, hb, l', by simp [hlt], he.stays hs.stays⟩
  · subst hp
    exact ⟨_, by simp only [Mem.sets]; rw [Mem.get_set, if_pos rfl]⟩
  · subst hp
    exact ⟨hm.apart b' ⟨p, l0, hl0, hb'⟩, fun k' l'' hk' ho' => hm.inj k' p l'' l0 b' hk' hl0 ho' hb'⟩
theorem mkmapx_sound (hm : MR w Z β m) {d : Nat} {kr : Row} {agg : Bool} {vp : Prim} {ef : Eff} (h : mkmapx d kr agg vp m = some ef) (t : TypeId) :
    ∃ u w', (Instr.makeMap t none).run P w = .ok u w' ∧ PostE Z w β m ef u w' := by
  unfold mkmapx at h
  split at h
  · rename_i hf
    cases h
    refine ⟨.map (some w.heap.size), w.alloc (.map #[] 0), ?_, ?_⟩
    · simp [Instr.makeMap]
    · obtain ⟨h2, h3⟩ := post_new hm (by simpa using hf) (.map w.heap.size) (.map #[] 0) rfl (.map kr agg vp []) fun A' hst => ⟨#[], heap_alloc_new w _, rfl⟩
      exact ⟨_, h2, h3, by simp only [SV.R]; exact ⟨.map w.heap.size, by simp [Loc.put], rfl⟩⟩
  · cases h
theorem lookx_sound (hm : MR w Z β m) {kr : Row} {agg : Bool} {vp : Prim} {ok : Bool} {x k : SV} {ef : Eff} (h : lookx kr agg vp ok x k m = some ef) {t : TypeId} (ht : mapT P t = some (kr, agg, vp)) {vx vk : Value} (hx : x.R w (β.away Z) β vx) (hk : k.R w (β.away Z) β vk) :
    ef.upd = [] ∧ ∃ u, (Instr.lookup t vx vk ok).run P w = .ok u w ∧ ef.val.R w (β.away Z) β u := by
  obtain ⟨kt, et, i, z, hu, hkt, hi, hz, hzr⟩ := mapT_sound ht
  unfold lookx at h
  split at h
  · rename_i q
    split at h
    · rename_i es key hes hkey
      have hq := mapOf_get hes
      have hkR := keyOfV_R hkey hk
      obtain ⟨b, l, hb, rfl, hh, he⟩ := map_obj hm hq hx
      have hcheck := key_check hkt hkR l.isEmpty
      have hgo : ∃ (u : Value), vp.R w (β.away Z) (mget kr.eqb vp.zero key es) u ∧ (Instr.lookup t (.map (some b)) vk ok).run P w = .ok (if ok = true then .tuple #[u, .bool (mhas kr.eqb key es)] else u) w := by
        rcases key_find hkt hkR he with ⟨h1, h2, h3⟩ | ⟨y, u, h1, h2, h3, _⟩
        · refine ⟨z, by unfold mget; rw [h2]; exact hzr w _, ?_⟩
          unfold mhas
          rw [h2]
          cases ok <;> simp [Instr.lookup, run_underlying hu, MapKept.run_getObj_map hh, hcheck, h1, zeroValue, typeInfo, hi, hz, Result.andThen]
        · refine ⟨u, by unfold mget; rw [h2]; exact h3, ?_⟩
          unfold mhas
          rw [h2]
          cases ok <;> simp [Instr.lookup, run_underlying hu, MapKept.run_getObj_map hh, hcheck, h1, Result.andThen]
      obtain ⟨u, hu1, hu2⟩ := hgo
      cases ok with
      | true =>
        simp only at h
        cases h
        exact ⟨rfl, _, hu2, by simp only [SV.R, if_true]; exact ⟨[u, .bool (mhas kr.eqb key es)], rfl, u, _, rfl, Prim.R_sv vp _ _ hu1, _, [], rfl, rfl, rfl⟩⟩
      | false =>
        simp only at h
        cases h
        exact ⟨rfl, _, hu2, Prim.R_sv vp _ _ hu1⟩
    · cases h
  · cases h
theorem mupx_sound (hm : MR w Z β m) {kr : Row} {agg : Bool} {vp : Prim} {x k v : SV} {ef : Eff} (h : mupx kr agg vp x k v m = some ef) {t : TypeId} (ht : mapT P t = some (kr, agg, vp)) {vx vk vv : Value} (hx : x.R w (β.away Z) β vx) (hk : k.R w (β.away Z) β vk) (hv : v.R w (β.away Z) β vv) :
    ∃ w', (Instr.mapUpdate t vx vk vv).run P w = .ok () w' ∧ PostE Z w β m ef undef w' := by
  obtain ⟨kt, et, i, z, hu, hkt, hi, hz, hzr⟩ := mapT_sound ht
  unfold mupx at h
  split at h
  · rename_i q
    split at h
    · rename_i es key y hes hkey hy
      cases h
      have hq := mapOf_get hes
      have hkR := keyOfV_R hkey hk
      have hyR := Prim.of_R vp v y vv hy hv
      obtain ⟨b, l, hb, rfl, hh, he⟩ := map_obj hm hq hx
      have hcheck := key_check hkt hkR false
      rcases key_find hkt hkR he with ⟨h1, h2, h3⟩ | ⟨y0, u, h1, h2, h3, h4, e, h5, h6, h7, h8⟩
      · refine ⟨_, ?_, map_put hm hq hb hh (l' := l.push { key := vk, val := vv, born := es.length }) ?_ (x := .dead) (u := undef) trivial _⟩
        · rw [mput_none h2, List.length_append, List.length_singleton]
          simp [Instr.mapUpdate, run_underlying hu, MapKept.run_getObj_map hh, hcheck, h1, MapKept.run_setObj_map _ hh, Result.andThen]
        · rw [mput_none h2, Array.toList_push]
          have := EntriesR.push hkR hyR he
          rw [Nat.zero_add] at this
          exact this
      · refine ⟨_, ?_, map_put hm hq hb hh (l' := l.modify (mpos kr.eqb key es) fun e => { e with key := vk, val := vv }) ?_ (x := .dead) (u := undef) trivial _⟩
        · rw [mput_some h2, List.length_modify]
          have h5' : l[mpos kr.eqb key es]? = some e := by rw [← Array.getElem?_toList]; exact h5
          have hst : (Instr.keyThatStays e.key vk).run P w = .ok vk w := by rw [h7]; exact key_stays hkt hkR
          simp [Instr.mapUpdate, run_underlying hu, MapKept.run_getObj_map hh, hcheck, h1, h5', hst, MapKept.run_setObj_map _ hh, Result.andThen]
        · rw [mput_some h2, Array.toList_modify]
          exact EntriesR.modify hyR (fun e => { e with key := vk, val := vv }) (fun e => ⟨rfl, rfl⟩) he fun e' he' => by
            rw [h5] at he'
            cases he'
            exact h7.symm
    · cases h
  · cases h
theorem mentryx_sound (hm : MR w Z β m) {kr : Row} {agg : Bool} {vp : Prim} {x k : SV} {ef : Eff} (h : mentryx kr agg vp x k m = some ef) {t : TypeId} (ht : mapT P t = some (kr, agg, vp)) {vx vk : Value} (hx : x.R w (β.away Z) β vx) (hk : k.R w (β.away Z) β vk) :
    ∃ u w', (Instr.mapEntry t vx vk).run P w = .ok u w' ∧ PostE Z w β m ef u w' := by
  obtain ⟨kt, et, i, z, hu, hkt, hi, hz, hzr⟩ := mapT_sound ht
  unfold mentryx at h
  split at h
  · rename_i q
    split at h
    · rename_i es key hes hkey
      cases h
      have hq := mapOf_get hes
      have hkR := keyOfV_R hkey hk
      obtain ⟨b, l, hb, rfl, hh, he⟩ := map_obj hm hq hx
      have hcheck := key_check hkt hkR false
      rcases key_find hkt hkR he with ⟨h1, h2, h3⟩ | ⟨y0, u, h1, h2, h3, h4, e, h5, h6, h7, h8⟩
      · refine ⟨.tuple #[z, goInt es.length], _, ?_, map_put hm hq hb hh (l' := l.push { key := vk, val := z, born := es.length }) ?_ ?_ _⟩
        · rw [ment_none h2, List.length_append, List.length_singleton]
          simp [Instr.mapEntry, run_underlying hu, MapKept.run_getObj_map hh, hcheck, h1, zeroValue, typeInfo, hi, hz, MapKept.run_setObj_map _ hh, Result.andThen]
        · rw [ment_none h2, Array.toList_push]
          have := EntriesR.push hkR (hzr w _) he
          rw [Nat.zero_add] at this
          exact this
        · simp only [SV.R]
          refine ⟨[z, goInt es.length], rfl, z, _, rfl, ?_, _, [], rfl, ?_, rfl⟩
          · unfold mget; rw [h2]; exact Prim.R_sv vp _ _ (hzr w _)
          · rw [h3]; rfl
      · refine ⟨.tuple #[u, goInt (mpos kr.eqb key es)], _, ?_, map_put hm hq hb hh (l' := l.modify (mpos kr.eqb key es) fun e => { e with key := vk }) ?_ ?_ _⟩
        · rw [ment_some h2]
          have h5' : l[mpos kr.eqb key es]? = some e := by rw [← Array.getElem?_toList]; exact h5
          have hst : (Instr.keyThatStays e.key vk).run P w = .ok vk w := by rw [h7]; exact key_stays hkt hkR
          simp [Instr.mapEntry, run_underlying hu, MapKept.run_getObj_map hh, hcheck, h1, h5', hst, h8, MapKept.run_setObj_map _ hh, Result.andThen]
        · rw [ment_some h2, Array.toList_modify]
          exact EntriesR.same (fun e => { e with key := vk }) (fun e => ⟨rfl, rfl⟩) he fun e' he' => by
            rw [h5] at he'
            cases he'
            exact h7.symm
        · simp only [SV.R]
          refine ⟨[u, goInt (mpos kr.eqb key es)], rfl, u, _, rfl, ?_, _, [], rfl, rfl, rfl⟩
          unfold mget; rw [h2]; exact Prim.R_sv vp _ _ h3
    · cases h
  · cases h
theorem entry_born {A : Nat → Prop} {kr : Row} {agg : Bool} {vp : Prim} : ∀ {i0 j : Nat} {es : List (kr.T × vp.T)} {l : List MapEntry}, EntriesR w A kr agg vp i0 es l → j < es.length → l.findIdx? (fun e => ((e.born : Int) == ((i0 + j : Nat) : Int))) = some j
  | i0, j, [], l, h, hj => by simp at hj
  | i0, 0, e :: es, l, h, hj => by
    obtain ⟨z, l', rfl, h1, h2, h3, h4⟩ := h
    simp [List.findIdx?_cons, h1]
  | i0, j + 1, e :: es, l, h, hj => by
    obtain ⟨z, l', rfl, h1, h2, h3, h4⟩ := h
    have ih := entry_born (j := j) h4 (by simpa using hj)
    rw [List.findIdx?_cons]
    have hne : ((z.born : Int) == ((i0 + (j + 1) : Nat) : Int)) = false := by rw [h1]; simp; omega
    rw [hne]
    simp only [Bool.false_eq_true, if_false]
    rw [show i0 + (j + 1) = i0 + 1 + j by omega, ih]
    rfl
theorem mstorex_sound (hm : MR w Z β m) {kr : Row} {agg : Bool} {vp : Prim} {x st v : SV} {ef : Eff} (h : mstorex kr agg vp x st v m = some ef) (t : TypeId) {vx vs vv : Value} (hx : x.R w (β.away Z) β vx) (hs : st.R w (β.away Z) β vs) (hv : v.R w (β.away Z) β vv) :
    ∃ w', (Instr.entryStore t vx vs vv).run P w = .ok () w' ∧ PostE Z w β m ef undef w' := by
  unfold mstorex at h
  split at h
  · rename_i q k i
    split at h
    · rename_i es y hes hy
      obtain ⟨h0, h⟩ := chk_some h
      obtain ⟨h1, h⟩ := chk_some h
      cases h
      simp at h0 h1
      have hq := mapOf_get hes
      have hyR := Prim.of_R vp v y vv hy hv
      obtain ⟨b, l, hb, rfl, hh, he⟩ := map_obj hm hq hx
      simp only [SV.R] at hs
      subst hs
      have hf := entry_born (j := i.toNat) he (by omega)
      rw [Nat.zero_add, show ((i.toNat : Nat) : Int) = i by omega] at hf
      have hf' : l.findIdx? (fun e => ((e.born : Int) == i)) = some i.toNat := by rw [← Array.toArray_toList (xs := l), List.findIdx?_toArray]; exact hf
      refine ⟨_, ?_, map_put hm hq hb hh (l' := l.modify i.toNat fun e => { e with val := vv }) ?_ (x := .dead) (u := undef) trivial _⟩
      · rw [show (mseti i y es).length = es.length by simp [mseti]]
        simp [Instr.entryStore, MapKept.run_getObj_map hh, asInt, asIntOf, hf', MapKept.run_setObj_map _ hh, Result.andThen]
      · rw [Array.toList_modify]
        exact EntriesR.modify hyR (fun e => { e with val := vv }) (fun e => ⟨rfl, rfl⟩) he fun e' he' => rfl
    · cases h
  · cases h
theorem fillL_len {α : Type} (off n : Nat) (z : α) (xs : List α) (h : off + n ≤ xs.length) : (fillL off n z xs).length = xs.length := by
  unfold fillL
  simp only [List.length_append, List.length_take, List.length_replicate, List.length_drop]
  omega
theorem clrx_sound (hm : MR w Z β m) {e : TypeId} {r : Row} {x : SV} {ef : Eff} (h : clrx e r x m = some ef) {t ty : TypeId} {i : TypeInfo} {z : Value} (ht : P.underlying t = some (.slice e)) (hi : P.info? e = some i)
    (hz : i.zero = some z) (hzs : z.cells.size = i.size) (hsz : r.size = i.size) (hzr : zeroRow r z.cells.toList = true) {vx : Value} (hx : x.R w (β.away Z) β vx) :
    ∃ w', (Builtin.clear_ #[t] ty #[vx]).run P w = .ok (.tuple #[]) w' ∧ PostE Z w β m ef (.tuple #[]) w' := by
  unfold clrx at h
  split at h
  · cases h
    simp only [SV.R] at hx
    subst hx
    exact ⟨w, by simp [Builtin.clear_, run_underlying ht], β, Step.refl w β, hm, by simp only [SV.R]; exact ⟨[], rfl, rfl⟩⟩
  · cases h
    simp only [SV.R] at hx
    obtain ⟨a, cap, rfl⟩ := hx
    exact ⟨w, by simp [Builtin.clear_, run_underlying ht], β, Step.refl w β, hm, by simp only [SV.R]; exact ⟨[], rfl, rfl⟩⟩
  · rename_i k off len
    split at h
    · rename_i e' r' xs hk
      split at h
      · rename_i hr
        split at h
        · rename_i he
          subst hr
          subst he
          cases h
          rw [castRow_self]
          simp only [SV.R] at hx
          obtain ⟨l, hl, ha⟩ := hx
          obtain ⟨l', hl', hob⟩ := hm.obs k _ hk
          rw [hl] at hl'
          cases hl'
          cases l with
          | row ad cap N sz e'' =>
            obtain ⟨rfl, rfl, h0, rfl, cells, ho, hrr⟩ := hob
            obtain ⟨A, c, rfl, hlc, hol, hoc, hA⟩ := ha
            by_cases hl0 : len = 0
            · subst hl0
              have : fillL off 0 r'.zero xs = xs := by
                unfold fillL
                simp
              rw [this]
              refine ⟨w, by cases A <;> simp [Builtin.clear_, run_underlying ht], β, Step.refl w β, hm.congr0 fun q => ?_, by simp only [SV.R]; exact ⟨[], rfl, rfl⟩⟩
              simp only [Mem.sets]
              rw [Mem.get_set]
              by_cases hq : q = k
              · rw [if_pos hq, hq, hk]
              · rw [if_neg hq]
            · have hA := hA (by omega)
              cases ad with
              | none =>
                have := ho.nil0
                omega
              | some g =>
                subst hA
                simp only [Option.map_some]
                have hcells := ho.1
                obtain ⟨_, cur, hh, hnc, hcm, hcs, htake⟩ := ho
                have hzc : z.cells.size = r'.size := by rw [hzs, ← hsz]
                have hN1 : (off + len) * r'.size ≤ xs.length * r'.size := Nat.mul_le_mul_right _ hol
                have hN1' := hN1
                rw [Nat.add_mul] at hN1'
                have hNc : xs.length * r'.size ≤ cap * r'.size := Nat.mul_le_mul_right _ hnc
                have hcur : cur.toList.length = g.o + cap * r'.size := by simpa using hcs
                have hnl : (Builtin.zeroCells z.cells len).toList.length = len * r'.size := by simp [Builtin.zeroCells, hzc]
                have hzrow : RowsR w (β.away Z) r' (List.replicate len r'.zero) (Builtin.zeroCells z.cells len).toList := by
                  have := zeros_rows (w := w) (A := β.away Z) hzr hzc len []
                  rw [List.append_nil] at this
                  have e1 : Builtin.zeroCells z.cells len = (Array.range (len * r'.size)).map fun i => z.cells[i % z.cells.size]! := by
                    unfold Builtin.zeroCells
                    rw [hzc]
                  rw [e1]
                  exact this
                have hone := hzrow.one h0 (by rw [hnl, List.length_replicate])
                have hrun := run_storeCells_at P g.g (g.o + off * r'.size) _ (Builtin.zeroCells z.cells len).toList 0 cur w hh (by rw [hnl]; simp at hcur ⊢; omega) hone
                rw [Nat.add_zero, hnl] at hrun
                have hs : Step w (w.setRow g.g (cur.toList.take (g.o + off * r'.size) ++ (Builtin.zeroCells z.cells len).toList ++ cur.toList.drop (g.o + off * r'.size + len * r'.size)).toArray) β β := setRow_step ⟨k, _, hl, rfl⟩
                refine ⟨_, ?_, β, hs, ?_, by simp only [SV.R]; exact ⟨[], rfl, rfl⟩⟩
                · have hln : len = (len - 1) + 1 := by omega
                  have hrun' := hrun
                  rw [hln] at hrun'
                  rw [hln]
                  simp [Builtin.clear_, run_underlying ht, zeroValue, typeInfo, hi, hz, Result.andThen]
                  simp at hrun'
                  rw [hrun']
                · refine hm.update (fun q => q = k) hs (fun q hq => ⟨rfl, by simp only [Mem.sets]; rw [Mem.get_set, if_neg hq]⟩) (fun q l' b' hq hl' hb' => setRow_other w g.g b' _ fun e => hq (hm.inj q k l' _ g.g hl' hl (e ▸ hb') rfl)) (fun q o hq hg' => ?_) (fun q l' hq hl' => ?_) (fun q l' b' hq hl' hb' => ?_)
                  · subst hq
                    simp only [Mem.sets] at hg'
                    rw [Mem.get_set, if_pos rfl] at hg'
                    cases hg'
                    refine ⟨_, hl, rfl, rfl, h0, by rw [fillL_len _ _ _ _ hol], cells.take (off * r'.size) ++ (Builtin.zeroCells z.cells len).toList ++ cells.drop (off * r'.size + len * r'.size), ⟨?_, _, setRow_heap w g.g cur _ _ (0, 0) hh, hnc, hcm, ?_, ?_⟩, ?_⟩
                    · rw [List.length_append, List.length_append, List.length_take, List.length_drop, hcells, hnl]
                      omega
                    · simp only [List.size_toArray, List.length_append, List.length_take, List.length_drop, hcur, hnl]
                      omega
                    · simp only
                      rw [drop_mid (by omega), take_mid hnl (by omega) (by rw [List.length_drop]; omega), htake]
                    · unfold fillL
                      have a1 := (hrr.stays hs.stays).take off
                      have a2 := hzrow.stays hs.stays
                      have a3 := (hrr.stays hs.stays).drop (off + len)
                      rw [Nat.add_mul] at a3
                      exact RowsR.append (RowsR.append a1 (by rw [List.length_take, List.length_take, hcells, Nat.min_eq_left (by omega), Nat.min_eq_left (by omega)]) a2 (by rw [hnl, List.length_replicate])) (by rw [List.length_append, List.length_take, hnl, List.length_append, List.length_take, List.length_replicate, hcells, Nat.min_eq_left (by omega), Nat.min_eq_left (by omega), Nat.add_mul]) a3 (by rw [List.length_drop, List.length_drop, hcells, Nat.sub_mul, Nat.add_mul])
                  · subst hq
                    exact ⟨_, by simp only [Mem.sets]; rw [Mem.get_set, if_pos rfl]⟩
                  · subst hq
                    rw [hl] at hl'
                    cases hl'
                    exact ⟨hm.apart _ ⟨q, _, hl, hb'⟩, fun k' l'' h1' h2' => hm.inj k' q l'' _ b' h1' hl h2' hb'⟩
          | _ => exact hob.elim
        · cases h
      · cases h
    · cases h
  · cases h
end
end Go.Proofs.YtgakbdikappdbaaGreat.S2
set_option linter.unusedVariables false
set_option linter.unusedSimpArgs false
namespace Go.Proofs.YtgakbdikappdbaaGreat.S2
open Go
section
variable {P : Program} {w : World} {Z : Nat → Prop} {β : Loc} {m : Mem}
theorem box_addr (hm : MR w Z β m) {k i fo : Nat} (hb : isBox m k = true) {v : Value} (h : (SV.ptr k i fo).R w (β.away Z) β v) : ∃ (b : Nat) (vs : Array Value) (t : TypeId), v = .pointer (some ⟨b, i + fo, none⟩) ∧ w.heap[b]? = some (.cells vs t (0, 0)) ∧
    (∀ cs, m.get k = some (.cells cs) → vs.size = cs.length) ∧ (∀ t' cs, m.get k = some (.tcells t' cs) → vs.size = cs.length ∧ t = t') ∧ ∀ u, (SV.ptr k i fo).R w (β.away Z) β u → u = v := by
  simp only [SV.R] at h
  obtain ⟨l, hl, ha⟩ := h
  unfold isBox at hb
  split at hb
  · rename_i cs hk
    obtain ⟨l', hl', hob⟩ := hm.obs k _ hk
    rw [hl] at hl'; cases hl'
    cases l with
    | box b =>
      obtain ⟨vs, t, hh, hrl, h1⟩ := hob
      simp only [LK.addr] at ha
      refine ⟨b, vs, t, ha, hh, fun cs' h' => ?_, fun t' cs' h' => ?_, fun u hu => ?_⟩
      · rw [hk] at h'; cases h'
        have := SV.RL_len _ _ hrl
        simpa using this
      · rw [hk] at h'; cases h'
      · simp only [SV.R] at hu
        obtain ⟨l', hl', ha'⟩ := hu
        rw [hl] at hl'; cases hl'
        simp only [LK.addr] at ha'
        rw [ha, ha']
    | _ => exact hob.elim
  · rename_i t0 cs hk
    obtain ⟨l', hl', hob⟩ := hm.obs k _ hk
    rw [hl] at hl'; cases hl'
    cases l with
    | box b =>
      obtain ⟨vs, hh, hrl, h1⟩ := hob
      simp only [LK.addr] at ha
      refine ⟨b, vs, t0, ha, hh, fun cs' h' => ?_, fun t' cs' h' => ?_, fun u hu => ?_⟩
      · rw [hk] at h'; cases h'
      · rw [hk] at h'; cases h'
        have := SV.RL_len _ _ hrl
        exact ⟨by simpa using this, rfl⟩
      · simp only [SV.R] at hu
        obtain ⟨l', hl', ha'⟩ := hu
        rw [hl] at hl'; cases hl'
        simp only [LK.addr] at ha'
        rw [ha, ha']
    | _ => exact hob.elim
  · cases hb
theorem nilTest_same {A : Nat → Prop} {op : BinOp} {a : Addr} {ef : Eff} {fp : List Nat} (h : nilTest op true (fun v => some (⟨v, [], fp⟩ : Eff)) = some ef) {t e : TypeId} {j : TypeInfo} (ht : P.underlying t = some (.pointer e)) (hj : P.info? e = some j) :
    ∃ u, (binOp op t (.pointer (some a)) (.pointer (some a))).run P w = .ok u w ∧ ef.upd = [] ∧ ef.val.R w A β u := by
  have he : ∀ d : Nat, (Op.equalIn (d + 1) t (.pointer (some a)) (.pointer (some a))).run P w = .ok true w := fun d => by
    simp [Op.equalIn, run_underlying ht, sizeOf, typeInfo, hj, run_sameAddr_same]
  cases op <;> simp only [nilTest] at h <;> try (cases h)
  · exact ⟨.bool true, by simp only [binOp]; simp [Op.equal, Op.maxDepth, he 9999], rfl, rfl⟩
  · exact ⟨.bool false, by simp only [binOp]; simp [Op.equal, Op.maxDepth, he 9999], rfl, rfl⟩
theorem utox_sound (hm : MR w Z β m) {x : SV} {ef : Eff} (h : utox x m = some ef) {vx : Value} (hx : x.R w (β.away Z) β vx) {src dst t : TypeId} {j : TypeInfo} (hs : P.underlying src = some (.pointer t)) (hd : P.underlying dst = some .unsafePointer)
    (ht : P.info? t = some j) (hj : j.size ≠ 0) : (convert src dst vx).run P w = .ok vx w ∧ PostE Z w β m ef vx w := by
  unfold utox at h
  split at h
  · rename_i k i fo
    split at h
    · rename_i cs hk
      split at h
      · rename_i hlt
        cases h
        obtain ⟨b, vs, ty, rfl, hh, h1, _, _⟩ := box_addr hm (by simp [isBox, hk]) hx
        exact ⟨Lib.run_to_unsafe w ⟨b, i + fo, none⟩ hs hd ht hj (e := ty) (cells := vs.size) (by simp [World.shape?, hh]) (by rw [h1 cs hk]; exact hlt), PostE.same hm hx⟩
      · cases h
    · rename_i t0 cs hk
      split at h
      · rename_i hlt
        cases h
        obtain ⟨b, vs, ty, rfl, hh, _, h1, _⟩ := box_addr hm (by simp [isBox, hk]) hx
        exact ⟨Lib.run_to_unsafe w ⟨b, i + fo, none⟩ hs hd ht hj (e := ty) (cells := vs.size) (by simp [World.shape?, hh]) (by rw [(h1 t0 cs hk).1]; exact hlt), PostE.same hm hx⟩
      · cases h
    · cases h
  · cases h
theorem ufromx_sound (hm : MR w Z β m) {u : TypeId} {x : SV} {ef : Eff} (h : ufromx (uTypes P u) x m = some ef) {vx : Value} (hx : x.R w (β.away Z) β vx) {src dst : TypeId} {j : TypeInfo} (hs : P.underlying src = some .unsafePointer) (hd : P.underlying dst = some (.pointer u))
    (hu : P.info? u = some j) : (convert src dst vx).run P w = .ok vx w ∧ PostE Z w β m ef vx w := by
  unfold ufromx at h
  split at h
  · rename_i k i fo
    split at h
    · rename_i t0 cs hk
      split at h
      · rename_i hc
        obtain ⟨h0, hin⟩ := hc
        cases h
        obtain ⟨b, vs, ty, rfl, hh, _, h1, _⟩ := box_addr hm (by simp [isBox, hk]) hx
        obtain ⟨h2, rfl⟩ := h1 t0 cs hk
        have hin' : (ty, cs.length) ∈ uTypes P u := by simpa using hin
        have hl := (List.mem_filter.1 hin').2
        dsimp only at hl
        refine ⟨Lib.run_from_unsafe w ⟨b, i + fo, none⟩ hs hd hu (e := ty) (cells := vs.size) (by simp [World.shape?, hh]) ?_, PostE.same hm hx⟩
        rw [h2]
        dsimp only
        rw [h0]
        exact hl
      · cases h
    · cases h
  · cases h
theorem usdx_sound (hm : MR w Z β m) {x : SV} {fp : List Nat} {ef : Eff} (h : usdx x m fp some = some ef) {vx : Value} (hx : x.R w (β.away Z) β vx) (ts : Array TypeId) (ty : TypeId) :
    ∃ u, (Builtin.unsafeSliceData_ ts ty #[vx]).run P w = .ok u w ∧ PostE Z w β m ef u w := by
  unfold usdx at h
  split at h
  · cases h
    simp only [SV.R] at hx
    subst hx
    exact ⟨.pointer none, rfl, PostE.same hm rfl⟩
  · rename_i k off len
    split at h
    · rename_i e r xs hk
      obtain ⟨h1, h⟩ := chk_some h
      obtain ⟨h2, h⟩ := chk_some h
      cases h
      simp only [decide_eq_true_eq] at h1 h2
      simp only [SV.R] at hx
      obtain ⟨l, hl, hp⟩ := hx
      obtain ⟨l', hl', hob⟩ := hm.obs k _ hk
      rw [hl] at hl'; cases hl'
      cases l with
      | row ad cap n sz e'' =>
        obtain ⟨_, hsz, _, hn, cells, ho, _⟩ := hob
        obtain ⟨A', c, rfl, hlc, hon, hcap, ha⟩ := hp
        have hc0 : c ≠ 0 := by omega
        cases ad with
        | none => have := ho.nil0; omega
        | some g =>
          rw [ha hc0]
          refine ⟨_, Lib.run_unsafeSliceData_row (P := P) w ts ty _ len c hc0, PostE.same hm ?_⟩
          simp only [SV.R]
          exact ⟨_, hl, by simp only [LK.addr]; exact ⟨by omega, by simp⟩⟩
      | _ => exact hob.elim
    · cases h
  · cases h
theorem loadBytes_nums : ∀ (xs : List Int) (a : Addr) (acc : ByteArray), (∀ j x, xs[j]? = some x → w.cell? (a.add j) = some (.int .u8 x)) →
    (loadBytes a acc xs.length).run P w = .ok ⟨acc.data ++ (xs.map fun n => UInt8.ofNat n.toNat).toArray⟩ w
  | [], a, acc, _ => by simp [loadBytes]
  | x :: l, a, acc, h => by
    have h0 : w.cell? a = some (.int .u8 x) := by
      have := h 0 x rfl
      simpa [Addr.add] using this
    have ih := loadBytes_nums l (a.add 1) (acc.push (x.toNat.toUInt8)) (fun j y hy => by
      have := h (j + 1) y (by simpa using hy)
      have e : (a.add 1).add j = a.add (j + 1) := by
        unfold Addr.add
        by_cases hj : j = 0
        · subst hj; simp
        · simp [hj]; omega
      rw [e]; exact this)
    simp only [List.length_cons, loadBytes, Sem.run_bind, run_load, h0, Result.andThen]
    rw [ih]
    congr 1
    apply ByteArray.ext
    simp [ByteArray.push]
theorem liesAt_off {e : TypeId} (hc : P.cellsOf e = 1) (count off n : Nat) (hn : off + n ≤ count) : liesAt P P.depth e count off e n = true := by
  have hd : P.depth = (2 * (P.types.size + Made.depth) + 1) + 1 := rfl
  rw [hd]
  simp only [liesAt, Bool.or_eq_true]
  left
  rw [hd]
  simp [rowAt, hc, hn, sameLayout, Nat.mod_one]
theorem freeze_other (w : World) (a : Addr) (n b : Nat) (h : b ≠ a.block) : (w.freeze a n).heap[b]? = w.heap[b]? := by
  unfold World.freeze
  split
  · rfl
  · simp only
    rw [Array.getElem?_modify, if_neg (fun e => h e.symm)]
theorem freeze_rest (w : World) (a : Addr) (n : Nat) : (w.freeze a n).os = w.os ∧ (w.freeze a n).tape = w.tape ∧ (w.freeze a n).output = w.output ∧ (w.freeze a n).heap.size = w.heap.size := by
  unfold World.freeze
  split
  · exact ⟨rfl, rfl, rfl, rfl⟩
  · exact ⟨rfl, rfl, rfl, by simp⟩
theorem ustr_row (hm : MR w Z β m) {e : TypeId} {k i : Nat} {xs : List Int} (hk : m.get k = some (.row e (.cons (.int .u8) .nil) xs)) {N : Nat} {k0 : IntKind} (h1 : 0 < N) (h2 : i + N ≤ xs.length) {vx vn : Value} (hx : (SV.ptr k i 0).R w (β.away Z) β vx) (hn : vn = .int k0 N)
    {pt it ty : TypeId} (hp : P.underlying pt = some (.pointer e)) (hc : P.cellsOf e = 1) :
    ∃ u w', (Builtin.unsafeString_ #[pt, it] ty #[vx, vn]).run P w = .ok u w' ∧ PostE Z w β m ⟨.str (strOfNums ((xs.drop i).take N)), [(k, .gone)], [k]⟩ u w' := by
  simp only [SV.R] at hx
  subst hn
  obtain ⟨l, hl, ha⟩ := hx
  obtain ⟨l', hl', hob⟩ := hm.obs k _ hk
  rw [hl] at hl'; cases hl'
  cases l with
  | row ad cap n0 sz e'' =>
    obtain ⟨he, hsz, _, hn0, cells, ho, hrows⟩ := hob
    subst he hsz
    have hn0 : n0 = xs.length := hn0
    subst hn0
    cases ad with
    | none => exact ha.elim
    | some g =>
      simp only [LK.addr] at ha
      obtain ⟨_, rfl⟩ := ha
      obtain ⟨hcl, cur, hh, hnc, hcm, hcs, hcur⟩ := ho
      have hone : (Row.cons (Prim.int .u8) Row.nil).size = 1 := rfl
      rw [hone] at hcs hcl hcur
      have hcell : ∀ (j : Nat) (x : Int), ((xs.drop i).take N)[j]? = some x → w.cell? ((⟨g.g, g.o + i, none⟩ : Addr).add j) = some (.int .u8 x) := by
        intro j x hj
        rw [List.getElem?_take] at hj
        split at hj
        · rename_i hjN
          rw [List.getElem?_drop] at hj
          obtain ⟨hlt, hxe⟩ := List.getElem?_eq_some_iff.1 hj
          have hr := hrows (i + j) hlt
          simp only [Row.R, Prim.R] at hr
          obtain ⟨v, hv, rfl⟩ := hr
          have h0 := congrArg (fun l => l[0]?) hv
          simp only [List.getElem?_take, List.getElem?_drop, hone, Nat.mul_one, Nat.add_zero, Nat.zero_lt_one, if_true, List.getElem?_cons_zero] at h0
          have hcc := OwnsAt.cells (w := w) (e := e'') (sz := 1) (n := xs.length) (cap := cap) (g := g) (cells := cells) ⟨by rw [hcl], cur, hh, hnc, hcm, by rw [hcs], hcur⟩ (i + j) _ h0
          rw [add_mk, Nat.add_assoc]
          rw [hcc]
          rw [← hxe]
          rfl
        · cases hj
      have hlen : ((xs.drop i).take N).length = N := by
        rw [List.length_take, List.length_drop]
        have h2 : i + N ≤ xs.length := h2
        omega
      have hlb := loadBytes_nums (P := P) (w := w) ((xs.drop i).take N) ⟨g.g, g.o + i, none⟩ .empty hcell
      rw [hlen] at hlb
      have hsh : w.shape? g.g = some (e'', cur.size) := by simp [World.shape?, hh]
      have hlies := liesAt_off (P := P) hc (cur.size / P.cellsOf e'') (g.o + i) N (by rw [hc, Nat.div_one, hcs]; have h2 : i + N ≤ xs.length := h2; omega)
      have hmax : IntKind.i64.max = 9223372036854775807 := rfl
      have hNb : ¬ (9223372036854775807 : Int) < (N : Int) := by simp only [maxLen] at hcm; have h2 : i + N ≤ xs.length := h2; omega
      have hneg : ¬ (N : Int) < 0 := by omega
      have hN0 : N ≠ 0 := by omega
      have hdef : Builtin.unsafeString_ #[pt, it] ty #[.pointer (some ⟨g.g, g.o + i, none⟩), .int k0 N] =
          (do
            let n ← asInt (.int k0 N)
            if n < 0 then runtimePanic (.error "unsafe.String: len out of range")
            if n > IntKind.i64.max then unsupported (.unsafePointer "String: a length above the largest int")
            if n = 0 then pure (.string .empty)
            else if ← variablesAt ⟨g.g, g.o + i, none⟩ (← elemOf pt) n.toNat then do
              let s ← loadBytes ⟨g.g, g.o + i, none⟩ .empty n.toNat
              Go.freeze ⟨g.g, g.o + i, none⟩ n.toNat
              pure (.string s)
            else unsupported (.unsafePointer "String: not so many bytes at ptr")) := rfl
      have e1 : (⟨g.g, g.o + i * 1 + 0, none⟩ : Addr) = ⟨g.g, g.o + i, none⟩ := by simp
      rw [hone, e1]
      refine ⟨.string (strOfNums ((xs.drop i).take N)), w.freeze ⟨g.g, g.o + i, none⟩ N, ?_, ?_⟩
      · rw [hdef]
        simp [asInt, asIntOf, hmax, hNb, hneg, hN0, variablesAt, hsh, elemOf, run_underlying hp, hlies, hlb]
        simp [strOfNums, List.map_take, List.map_drop]
      · obtain ⟨f1, f2, f3, f4⟩ := freeze_rest w ⟨g.g, g.o + i, none⟩ N
        have hown : ∀ b, b < w.heap.size → ¬ β.owned b → (w.freeze ⟨g.g, g.o + i, none⟩ N).heap[b]? = w.heap[b]? := fun b _ hb => freeze_other _ _ _ _ (by rintro rfl; exact hb ⟨k, _, hl, rfl⟩)
        have hs : Step w (w.freeze ⟨g.g, g.o + i, none⟩ N) β (β.put k .gone) := ⟨f1, f2, f3, by rw [f4]; exact Nat.le_refl _, hown, fun b hb => by
            obtain ⟨q, l', hq, ho⟩ := hb
            simp only [Loc.put] at hq
            split at hq
            · cases hq; cases ho
            · exact .inl ⟨q, l', hq, ho⟩, fun q l' hq => by
            simp only [Loc.put]
            by_cases hqj : q = k
            · subst hqj
              rw [if_pos rfl]
              rw [hl] at hq
              cases hq
              exact ⟨_, rfl, .gone _ (by intro b hb; cases hb)⟩
            · rw [if_neg hqj]
              exact ⟨l', hq, .refl l'⟩⟩
        refine ⟨β.put k .gone, hs, ?_, rfl⟩
        simp only [Mem.sets]
        refine hm.update (fun q => q = k) hs (fun q hq => ⟨by simp [Loc.put, hq], by rw [Mem.get_set, if_neg hq]⟩) (fun q l' b' hq hl' hb' => freeze_other _ _ _ _ (by rintro rfl; exact hq (hm.inj q k l' _ _ hl' hl hb' rfl))) (fun q o hq hg => ?_) (fun q l hq hl => ?_) (fun q l b hq hl hb => ?_)
        · subst hq
          rw [Mem.get_set, if_pos rfl] at hg
          cases hg
          exact ⟨.gone, by simp [Loc.put], trivial⟩
        · subst hq
          exact ⟨_, by rw [Mem.get_set, if_pos rfl]⟩
        · subst hq
          simp [Loc.put] at hl
          subst hl
          cases hb
  | _ => exact hob.elim
theorem ustrx_sound (hm : MR w Z β m) {e : TypeId} {x n : SV} {ef : Eff} (h : ustrx e x n m some = some ef) {vx vn : Value} (hx : x.R w (β.away Z) β vx) (hn : n.R w (β.away Z) β vn) {pt it ty : TypeId} (hp : P.underlying pt = some (.pointer e)) (hc : P.cellsOf e = 1) :
    ∃ u w', (Builtin.unsafeString_ #[pt, it] ty #[vx, vn]).run P w = .ok u w' ∧ PostE Z w β m ef u w' := by
  unfold ustrx at h
  split at h
  · rename_i k0 n
    obtain ⟨h1, h⟩ := chk_some h
    cases h
    simp only [decide_eq_true_eq] at h1
    subst h1
    simp only [SV.R] at hx hn
    subst hx hn
    exact ⟨.string .empty, w, rfl, PostE.same hm rfl⟩
  · rename_i k i fo k0 n
    split at h
    · rename_i e' r xs hk
      split at h
      · rename_i hr
        subst hr
        split at h
        · rename_i hcond
          obtain ⟨rfl, rfl⟩ := hcond
          obtain ⟨h1, h⟩ := chk_some h
          obtain ⟨h2, h⟩ := chk_some h
          cases h
          simp only [decide_eq_true_eq] at h1 h2
          obtain ⟨N, rfl⟩ : ∃ N : Nat, n = (N : Int) := ⟨n.toNat, by omega⟩
          simp only [Int.toNat_natCast] at h2 ⊢
          exact ustr_row hm hk (by omega) h2 hx (by simpa only [SV.R] using hn) hp hc
        · cases h
      · cases h
    · cases h
  · cases h
end
end Go.Proofs.YtgakbdikappdbaaGreat.S2
set_option linter.unusedVariables false
set_option linter.unusedSimpArgs false
namespace Go.Proofs.YtgakbdikappdbaaGreat.S2
open Go
theorem compOpt_R {w : World} {A : Nat → Prop} {β : Loc} {ts : List SV} {a : Act} (ht : TR w A β ts a) {x : Option Operand} {y : Option Opd} (h : compOpt x = some y) :
    (∀ z, y.map (·.ev ts) = some z → ∃ v, x.map a.eval = some v ∧ z.R w A β v) ∧ (y.map (·.ev ts) = none → x.map a.eval = none) := by
  unfold compOpt at h
  split at h
  · cases h; exact ⟨fun z hz => by simp at hz, fun _ => rfl⟩
  · split at h
    · rename_i x' a' ha
      cases h
      exact ⟨fun z hz => by simp at hz; subst hz; exact ⟨_, rfl, opd_R ht ha⟩, fun hn => by simp at hn⟩
    · cases h
theorem rowOf_pos {P : Program} {e : TypeId} {r : Row} (h : rowOf P e = some r) : r.size = P.cellsOf e ∧ 0 < r.size := by
  unfold rowOf at h
  split at h
  · rename_i ps hps
    split at h
    · rename_i hc
      cases h
      have : ∀ l : List Prim, (Row.ofList l).size = l.length := by
        intro l
        induction l with
        | nil => rfl
        | cons p l ih => simp [Row.ofList, Row.size, ih]
      rw [this]
      exact ⟨hc.1, hc.2⟩
    · cases h
  · cases h
theorem two_R {w : World} {A : Nat → Prop} {β : Loc} {ts : List SV} {a : Act} (ht : TR w A β ts a) {as : Array Operand} {x y : Opd} (h : two as = some (x, y)) : ∃ p q, as = #[p, q] ∧ (x.ev ts).R w A β (a.eval p) ∧ (y.ev ts).R w A β (a.eval q) := by
  unfold two at h
  split at h
  · rename_i p q hl
    split at h
    · rename_i a' b' ha hb
      cases h
      exact ⟨p, q, by rw [← Array.toArray_toList (xs := as), hl], opd_R ht ha, opd_R ht hb⟩
    · cases h
  · cases h
theorem of_ok {m : Mem} {r : Row} (h0 : 0 < r.size) {x : SV} {y : r.T} (h : r.of m x.cellsOf = some y) : x.cellsOk = true := by
  cases x <;> try rfl
  · match r, h0, y, h with
    | .cons p .nil, _, y, h => rw [show SV.dead.cellsOf = [.dead] from rfl, Row.of_one] at h; cases p <;> simp [Prim.of] at h
    | .cons p (.cons q r), _, y, h => rw [show SV.dead.cellsOf = [.dead] from rfl, Row.of_two1] at h; cases h
  · rename_i vs
    match r, h0, y, h with
    | .cons p .nil, _, y, h => rw [show (SV.tup vs).cellsOf = [.tup vs] from rfl, Row.of_one] at h; cases p <;> simp [Prim.of] at h
    | .cons p (.cons q r), _, y, h => rw [show (SV.tup vs).cellsOf = [.tup vs] from rfl, Row.of_two1] at h; cases h
section
variable {P : Program} {w : World} {Z : Nat → Prop} {β : Loc} {m : Mem} {ts : List SV} {a : Act} {o : Oper}
theorem ok_run (hm : MR w Z β m) {s : Sem Value} (ho : execOp a.eval o = (do pure (.value (← s)))) {x : SV} {fp : List Nat} (h : ∃ u, s.run P w = .ok u w ∧ x.R w (β.away Z) β u) : OpOK P o a w (PostE Z w β m ⟨x, [], fp⟩) := by
  obtain ⟨u, hu, hr⟩ := h
  refine OpOK.value (v := u) (w' := w) ?_ (PostE.same hm hr)
  rw [ho, Sem.run_bind, hu]
  rfl
theorem ok_run' (hm : MR w Z β m) {ef : Eff} (hu : ef.upd = []) {s : Sem Value} (ho : execOp a.eval o = (do pure (.value (← s)))) (h : ∃ u, s.run P w = .ok u w ∧ ef.val.R w (β.away Z) β u) : OpOK P o a w (PostE Z w β m ef) := by
  obtain ⟨v, upd, fp⟩ := ef
  subst hu
  exact ok_run hm ho h
theorem ok_now (hm : MR w Z β m) {u : Value} (ho : execOp a.eval o = pure (.value u)) {x : SV} {fp : List Nat} (hr : x.R w (β.away Z) β u) : OpOK P o a w (PostE Z w β m ⟨x, [], fp⟩) :=
  OpOK.value (v := u) (w' := w) (by rw [ho]; rfl) (PostE.same hm hr)
theorem plit_sound (hm : MR w Z β m) {k : Nat} (hk : m.get k = none) {cs : List SV} {vs : List Value} (hl : SV.RL w (β.away Z) β cs vs) (h1 : ∀ u ∈ vs, u.oneCell' = true ∧ u.cells.size = 1) (t : TypeId) {fp : List Nat} :
    PostE Z w β m ⟨.bsl k cs.length, [(k, .cells cs)], fp⟩ (.slice (some ⟨w.heap.size, 0, none⟩) vs.length vs.length) (w.alloc (.cells vs.toArray t)) := by
  obtain ⟨h2, h3⟩ := post_new hm hk (.box w.heap.size) (.cells vs.toArray t) rfl (.cells cs) fun A' hst =>
    ⟨vs.toArray, t, heap_alloc_new w _, by simpa using SV.RL_step hst (step_new hm hk (.box w.heap.size) (.cells vs.toArray t) (.inr rfl)).le cs vs hl, by simpa using fun u hu => (h1 u hu).1⟩
  exact ⟨_, h2, h3, by simp only [SV.R]; exact ⟨.box w.heap.size, by simp [Loc.put], by rw [SV.RL_len _ _ hl]; rfl⟩⟩
theorem ptrs_one {w : World} {A : Nat → Prop} {β : Loc} : (cs : List SV) → (vs : List Value) → cs.all SV.isPtr = true → SV.RL w A β cs vs → ∀ u ∈ vs, u.oneCell' = true ∧ u.cells = #[u]
  | [], vs, _, e => by simp only [SV.RL] at e; subst e; simp
  | x :: l, vs, h, hr => by
    simp only [SV.RL] at hr
    obtain ⟨v, vs', rfl, hx, hl⟩ := hr
    simp only [List.all_cons, Bool.and_eq_true] at h
    intro u hu
    rcases List.mem_cons.1 hu with rfl | hu
    · cases x with
      | ptr k i fo =>
        simp only [SV.R] at hx
        obtain ⟨l, _, ha⟩ := hx
        obtain ⟨ad, rfl⟩ := addr_some ha
        exact ⟨rfl, rfl⟩
      | _ => simp [SV.isPtr] at h
    · exact ptrs_one l vs' h.2 hl u hu
def O2.isCall : O2 → Bool
  | .call _ _ | .callv _ _ => true
  | _ => false
theorem someV_some {v : Option SV} {e : Eff} (h : someV v some = some e) : ∃ x, v = some x ∧ e = ⟨x, [], []⟩ := by
  cases v with
  | none => cases h
  | some x => cases h; exact ⟨x, rfl, rfl⟩
theorem len_some {v : Option SV} {fp : List Nat} {e : Eff} (h : (match v with | some v => some (⟨v, [], fp⟩ : Eff) | none => none) = some e) : ∃ x, v = some x ∧ e = ⟨x, [], fp⟩ := by
  cases v with
  | none => cases h
  | some x => cases h; exact ⟨x, rfl, rfl⟩
theorem someE_some {v : Option Eff} {e : Eff} (h : someE v some = some e) : v = some e := by
  cases v with
  | none => cases h
  | some x => exact h
theorem map_some' {α γ : Type} {f : α → γ} {x : Option α} {y : γ} (h : x.map f = some y) : ∃ z, x = some z ∧ y = f z := by
  cases x with
  | none => cases h
  | some z => cases h; exact ⟨z, rfl, rfl⟩
theorem aax_sound {w : World} {Z : Nat → Prop} {β : Loc} {n sz : Nat} {x i v : SV} (h : aax n sz x i some = some v) {t e : TypeId} {ti : TypeInfo} (ht : P.underlying t = some (.array n e)) (hi : P.info? e = some ti) (hsz : sz = ti.size)
    {vx vi : Value} (hx : x.R w (β.away Z) β vx) (hv : i.R w (β.away Z) β vi) : ∃ u, (Instr.indexAt t vx vi).run P w = .ok u w ∧ v.R w (β.away Z) β u := by
  unfold aax at h
  split at h
  · rename_i key j fo k q
    obtain ⟨h0, h⟩ := chk_some h
    obtain ⟨h1, h⟩ := chk_some h
    cases h
    simp at h0 h1
    simp only [SV.R] at hv hx
    subst hv hsz
    obtain ⟨l, hl, ha⟩ := hx
    obtain ⟨ad, rfl⟩ := addr_some ha
    refine ⟨.pointer (some (ad.add (q.toNat * ti.size))), ?_, ?_⟩
    · simp [Instr.indexAt, asIntOf, run_underlying ht, Instr.sureAddr, h0, h1, sizeOf_run hi]
    · simp only [SV.R]
      refine ⟨l, hl, ?_⟩
      cases l with
      | box b =>
        simp only [LK.addr] at ha ⊢
        cases ha
        rw [add_mk]
        simp [Nat.add_assoc]
      | row ad' cap n' sz e' =>
        cases ad' with
        | none => exact ha.elim
        | some g =>
          obtain ⟨h1, h2⟩ := ha
          cases h2
          refine ⟨h1, ?_⟩
          rw [add_mk]
          simp [Nat.add_assoc]
      | froz ad' cap n' sz e' =>
        cases ad' with
        | none => exact ha.elim
        | some g =>
          obtain ⟨h1, h2⟩ := ha
          cases h2
          refine ⟨h1, ?_⟩
          rw [add_mk]
          simp [Nat.add_assoc]
      | map b => exact ha.elim
      | gone => exact ⟨_, rfl⟩
  · cases h
theorem avx_sound {w : World} {A : Nat → Prop} {β : Loc} {n sz : Nat} {g : Bool} {x i v : SV} (h : avx n sz (!g) x i some = some v) {t e : TypeId} {ti : TypeInfo} (ht : P.underlying t = some (.array n e)) (hi : P.info? e = some ti) (hg : isAggT P e = some g) (hsz : sz = ti.size)
    {vx vi : Value} (hx : x.R w A β vx) (hv : i.R w A β vi) : ∃ u, (Instr.index t vx vi).run P w = .ok u w ∧ v.R w A β u := by
  unfold avx at h
  split at h
  · rename_i cs k q
    obtain ⟨h0, h⟩ := chk_some h
    obtain ⟨h1, h⟩ := chk_some h
    simp at h0 h1
    simp only [SV.R] at hv hx
    subst hv hsz
    obtain ⟨vs, rfl, hl, hone⟩ := hx
    cases g with
    | false =>
      simp only [Bool.not_false] at h
      split at h
      · rename_i y hy
        cases h
        obtain ⟨u, hu, hr⟩ := SV.RL_get _ _ hl _ _ hy
        exact ⟨u, by simp [Instr.index, asIntOf, run_underlying ht, h0, h1, sizeOf_run hi, part, isAggT_run hg, hu], hr⟩
      · cases h
    | true =>
      simp only [Bool.not_true] at h
      split at h
      · rename_i hfit
        cases h
        refine ⟨.agg ((vs.drop (q.toNat * ti.size)).take ti.size).toArray, ?_, ?_⟩
        · simp [Instr.index, asIntOf, run_underlying ht, h0, h1, sizeOf_run hi, part, isAggT_run hg]
        · simp only [SV.R]
          exact ⟨_, rfl, SV.RL_take _ _ _ (SV.RL_drop _ _ _ hl), fun u hu => hone u (List.mem_of_mem_drop (List.mem_of_mem_take hu))⟩
      · cases h
  · cases h
theorem rowsOf_R {w : World} {A : Nat → Prop} {β : Loc} {r : Row} : ∀ (n : Nat) (cs : List SV) (xs : List r.T) (vs : List Value), rowsOf r n cs = some xs → SV.RL w A β cs vs → xs.length = n ∧ RowsR w A r xs vs
  | 0, [], xs, vs, h, hl => by cases h; exact ⟨rfl, fun j hj => absurd hj (Nat.not_lt_zero j)⟩
  | 0, _ :: _, xs, vs, h, hl => by cases h
  | n + 1, cs, xs, vs, h, hl => by
    simp only [rowsOf] at h
    split at h
    · rename_i x l hx hr
      cases h
      obtain ⟨h1, h2⟩ := rowsOf_R n _ _ _ hr (SV.RL_drop r.size _ _ hl)
      refine ⟨by simp [h1], fun j hj => ?_⟩
      cases j with
      | zero => simpa using Row.of_R r _ _ _ hx (SV.RL_take r.size _ _ hl)
      | succ j =>
        have := h2 j (by simpa using hj)
        rw [List.drop_drop] at this
        rw [show (j + 1) * r.size = r.size + j * r.size by rw [Nat.succ_mul]; omega]
        exact this
    · cases h
theorem acutx_sound {w : World} {Z : Nat → Prop} {β : Loc} {m : Mem} (hm : MR w Z β m) {e e' : TypeId} {r : Row} {n : Nat} {x : SV} {ef : Eff} (h : acutx e r n x m = some ef) {t : TypeId} {ti : TypeInfo} (ht : P.underlying t = some (.array n e')) (hi : P.info? e' = some ti)
    {vx : Value} (hx : x.R w (β.away Z) β vx) : ∃ u, (Instr.sliceAt t vx none none none).run P w = .ok u w ∧ PostE Z w β m ef u w := by
  unfold acutx at h
  split at h
  · rename_i k i fo
    split at h
    · rename_i cs hk
      split at h
      · rename_i hc
        obtain ⟨h0, h5, hlen⟩ := hc
        split at h
        · rename_i xs hxs
          cases h
          simp only [SV.R] at hx
          obtain ⟨l, hl, ha⟩ := hx
          obtain ⟨l', hl', hob⟩ := hm.obs k _ hk
          rw [hl] at hl'
          cases hl'
          cases l with
          | row ad cap n' sz e'' => exact hob.elim
          | froz ad cap n' sz e'' => exact hob.elim
          | map b => exact hob.elim
          | gone => exact hob.elim
          | box b =>
            simp only [LK.addr] at ha
            subst ha
            obtain ⟨vs, ty, hh, hR, h1⟩ := hob
            have hs : Step w w β (β.put k .gone) := ⟨rfl, rfl, rfl, Nat.le_refl _, fun _ _ _ => rfl, fun b hb => by
                obtain ⟨q, l', hq, ho⟩ := hb
                simp only [Loc.put] at hq
                split at hq
                · cases hq; cases ho
                · exact .inl ⟨q, l', hq, ho⟩, fun q l' hq => by
                simp only [Loc.put]
                by_cases hqj : q = k
                · subst hqj
                  rw [if_pos rfl]
                  rw [hl] at hq
                  cases hq
                  exact ⟨_, rfl, .box b⟩
                · rw [if_neg hqj]
                  exact ⟨l', hq, .refl l'⟩⟩
            refine ⟨.slice (some ⟨b, 0, none⟩) n n, ?_, β.put k .gone, hs, ?_, ?_⟩
            · have e0 : (⟨b, i + fo, none⟩ : Addr) = ⟨b, 0, none⟩ := by rw [h0]
              rw [e0]
              simp [Instr.sliceAt, Instr.sliceBounds, run_underlying ht, Instr.sureAddr, sizeOf_run hi, Addr.add]
            · simp only [Mem.sets]
              refine hm.update (fun q => q = k) hs (fun q hq => ⟨by simp [Loc.put, hq], by rw [Mem.get_set, if_neg hq]⟩) (fun _ _ _ _ _ _ => rfl) (fun q o hq hg => ?_) (fun q l hq hl => ?_) (fun q l b hq hl hb => ?_)
              · subst hq
                rw [Mem.get_set, if_pos rfl] at hg
                cases hg
                exact ⟨.gone, by simp [Loc.put], trivial⟩
              · subst hq
                exact ⟨_, by rw [Mem.get_set, if_pos rfl]⟩
              · subst hq
                simp [Loc.put] at hl
                subst hl
                cases hb
            · obtain ⟨hn, hrows⟩ := rowsOf_R n cs xs vs.toList hxs (SV.RL_step hs.stays hs.le _ _ hR)
              simp only [SV.R, Prim.R]
              refine ⟨some ⟨b, 0, none⟩, n, by rw [hn], ⟨by omega, fun hh => by cases hh⟩, fun j hj => ?_⟩
              have hvl : vs.toList.length = n * r.size := by rw [SV.RL_len _ _ hR, hlen]
              refine ⟨⟨b, 0, none⟩, (vs.toList.drop (j * r.size)).take r.size, rfl, ?_, (Array.getElem?_eq_some_iff.1 hh).1, ?_, fun q u hu => ?_, hrows j hj⟩
              · rintro (⟨q, l', hq, ho⟩ | hz)
                · simp only [Loc.put] at hq
                  split at hq
                  · cases hq; cases ho
                  · rename_i hne
                    exact hne (hm.inj q k l' _ b hq hl ho rfl)
                · exact hm.apart b ⟨k, _, hl, rfl⟩ hz
              · rw [List.length_take, List.length_drop, hvl]
                have : j * r.size + r.size ≤ n * r.size := by rw [← Nat.succ_mul]; exact Nat.mul_le_mul_right _ (by omega)
                omega
              · rw [List.getElem?_take] at hu
                split at hu
                · rw [List.getElem?_drop] at hu
                  rw [add_mk, Nat.zero_add]
                  simp only [World.cell?, hh]
                  simpa using hu
                · cases hu
        · cases h
      · cases h
    · cases h
  · cases h
theorem ptrInfo_some {P : Program} {t : TypeId} (h : ptrInfo P t = true) : ∃ e j, P.underlying t = some (.pointer e) ∧ P.info? e = some j := by
  unfold ptrInfo at h
  split at h
  · rename_i e he
    obtain ⟨j, hj⟩ := Option.isSome_iff_exists.1 h
    exact ⟨e, j, he, hj⟩
  · cases h
theorem isByte_info {P : Program} {e : TypeId} (h : isByte P e = true) : ∃ i, P.info? e = some i ∧ i.zero = some (.int .u8 0) ∧ i.size = 1 ∧ i.bytes = 1 := by
  unfold isByte at h
  split at h
  · rename_i i hi
    split at h
    · rename_i n hn
      simp only [Bool.and_eq_true, decide_eq_true_eq, beq_iff_eq] at h
      obtain ⟨rfl, h1, h2⟩ := h
      exact ⟨i, hi, hn, h1, h2⟩
    · cases h
  · cases h
theorem op_sound {cb : CB} {byRef : FuncId → CC} {op : O2} (hc : compOp P o = some op) (hT : TR w (β.away Z) β ts a) (hm : MR w Z β m) {ef : Eff} (h : opx cb byRef (o.dst.getD 0) op ts m some = some ef) (hcall : op.isCall = false) :
    OpOK P o a w (PostE Z w β m ef) := by
  unfold compOp at hc
  split at hc
  · -- move
    rename_i x ho
    obtain ⟨y, hy, rfl⟩ := map_some' hc
    cases h
    exact ok_now hm (by simp only [execOp, ho]) (opd_R hT hy)
  · rename_i x ho
    obtain ⟨y, hy, rfl⟩ := map_some' hc
    cases h
    exact ok_now hm (by simp only [execOp, ho]) (opd_R hT hy)
  · -- pick
    rename_i c x y ho
    split at hc
    · rename_i c' x' y' hc' hx' hy'
      cases hc
      simp only [opx] at h
      have hcr := opd_R hT hc'
      split at h
      · rename_i t ht
        rw [ht] at hcr
        simp only [SV.R] at hcr
        refine (?_ : OpOK P o a w (PostE Z w β m ef))
        cases t with
        | true =>
          simp only [pickx] at h
          cases h
          exact OpOK.value (v := a.eval x) (w' := w) (by simp [execOp, ho, hcr, asBool]) (PostE.same hm (opd_R hT hx'))
        | false =>
          simp only [pickx] at h
          cases h
          exact OpOK.value (v := a.eval y) (w' := w) (by simp [execOp, ho, hcr, asBool]) (PostE.same hm (opd_R hT hy'))
      · cases h
    · cases hc
  · -- alloc
    rename_i e ho
    split at hc
    · obtain ⟨zs, hz, rfl⟩ := map_some' hc
      simp only [opx] at h
      split at h
      · rename_i hf
        cases h
        obtain ⟨i, z, hi, hzz, hs, hcs⟩ := zeroT_sound hz
        obtain ⟨hl, h1⟩ := constSVs_R (w := w) (A := β.away Z) (β := β) hcs
        refine OpOK.value (v := .pointer (some ⟨w.heap.size, 0, none⟩)) (w' := w.alloc (.cells z.cells e)) ?_ (tbox_sound hm (by simpa using hf) hl h1 e _)
        simp [execOp, ho, Instr.alloc, zeroValue, typeInfo, hi, hzz, newVar_run]
      · cases h
    · obtain ⟨zs, hz, rfl⟩ := map_some' hc
      simp only [opx] at h
      split at h
      · rename_i hf
        cases h
        obtain ⟨i, z, hi, hzz, hs, hcs⟩ := zeroT_sound hz
        obtain ⟨hl, h1⟩ := constSVs_R (w := w) (A := β.away Z) (β := β) hcs
        refine OpOK.value (v := .pointer (some ⟨w.heap.size, 0, none⟩)) (w' := w.alloc (.cells z.cells e)) ?_ (box_sound hm (by simpa using hf) hl h1 e _)
        simp [execOp, ho, Instr.alloc, zeroValue, typeInfo, hi, hzz, newVar_run]
      · cases h
  · -- box
    rename_i e x ho
    split at hc
    · rename_i i x' hi hx'
      cases hc
      simp only [opx] at h
      split at h
      · rename_i hcond
        obtain ⟨hn, hok, hf⟩ := hcond
        cases h
        obtain ⟨hl, h1⟩ := cellsOf_R (opd_R hT hx') hok
        refine OpOK.value (v := .pointer (some ⟨w.heap.size, 0, none⟩)) (w' := w.alloc (.cells (a.eval x).cells e)) ?_ (box_sound hm (by simpa using hf) hl h1 e _)
        simp [execOp, ho, Instr.box, newVar_run]
      · cases h
    · cases hc
  · -- build
    rename_i t parts ho
    split at hc
    · rename_i zs pl hz hpl
      split at hc
      · rename_i ps hps
        cases hc
        simp only [opx] at h
        split at h
        · rename_i cs hcs
          cases h
          refine ok_run hm (s := Instr.build t (parts.map fun (i, x) => (i, a.eval x))) (by simp only [execOp, ho]) (build_sound hz hpl hcs (by simp [allSome_len hps]) fun j p q hp hq => ?_)
          simp only [List.getElem?_map, Option.map_eq_some_iff, Array.toList_map] at hp hq
          obtain ⟨p', hp', rfl⟩ := hp
          obtain ⟨q', hq', rfl⟩ := hq
          obtain ⟨y, hy, hf⟩ := allSome_get hps j q' hq'
          rw [hp'] at hy
          cases hy
          split at hf
          · rename_i q1 x1 hq1 hx1
            cases hf
            exact ⟨hq1, opd_R hT hx1⟩
          · cases hf
        · cases h
      · cases hc
    · cases hc
  · -- buildSlice
    rename_i t len parts ho
    split at hc
    · rename_i e he
      split at hc
      · rename_i r ps i hr hps hi
        split at hc
        · rename_i hcond
          obtain ⟨hix, hsm, hzz⟩ := hcond
          cases hc
          have h' := someE_some h
          obtain ⟨hrs, h0⟩ := rowOf_pos hr
          rw [cellsOf_info hi] at hrs
          obtain ⟨z, hz, hzs⟩ : ∃ z, i.zero = some z ∧ z.cells.size = i.size := by
            cases hzi : i.zero with
            | none => rw [hzi] at hzz; cases hzz
            | some z => rw [hzi] at hzz; exact ⟨z, rfl, by simpa using hzz⟩
          have hpl : ps.length = len := by have := congrArg List.length hix; simpa using this
          have hpal : parts.toList.length = len := by rw [← hpl, allSome_len hps]
          have hpe : (parts.map fun (p : Nat × Operand) => (p.1, a.eval p.2)) = ((List.range (parts.toList.map fun p => a.eval p.2).length).zip (parts.toList.map fun p => a.eval p.2)).toArray := by
            apply Array.ext'
            apply List.ext_getElem?
            intro j
            simp only [Array.toList_map, List.getElem?_map, List.length_map, hpal, List.getElem?_zip_eq_some, List.toList_toArray]
            cases hj : parts.toList[j]? with
            | none =>
              have : ((List.range len).zip (parts.toList.map fun p => a.eval p.2))[j]? = none := by
                rw [List.getElem?_eq_none_iff] at hj ⊢
                simp only [List.length_zip, List.length_range, List.length_map]
                omega
              rw [this]; rfl
            | some p =>
              obtain ⟨y, hy, hf⟩ := allSome_get hps j p hj
              have hjl : j < len := by rw [← hpal]; exact (List.getElem?_eq_some_iff.1 hj).1
              have h1 : (ps.map (·.1))[j]? = some j := by rw [hix]; simp [hjl]
              rw [List.getElem?_map, hy] at h1
              have hp1 : p.1 = j := by
                split at hf
                · cases hf; simpa using h1
                · cases hf
              have : ((List.range len).zip (parts.toList.map fun p => a.eval p.2))[j]? = some (j, a.eval p.2) := by
                rw [List.getElem?_zip_eq_some]
                exact ⟨by simp [hjl], by simp [hj]⟩
              rw [this]
              simp [hp1]
          have hRL : SV.RL w (β.away Z) β ((ps.map fun p => (p.1, p.2.ev ts)).map (·.2)) (parts.toList.map fun p => a.eval p.2) := by
            refine SV.RL_of_get _ _ (by simp [allSome_len hps]) fun j x v hx hv => ?_
            simp only [List.getElem?_map, Option.map_eq_some_iff, List.map_map] at hx hv
            obtain ⟨p, hp, rfl⟩ := hx
            obtain ⟨q, hq, rfl⟩ := hv
            obtain ⟨y, hy, hf⟩ := allSome_get hps j q hq
            rw [hp] at hy
            cases hy
            split at hf
            · rename_i x1 hx1
              cases hf
              exact opd_R hT hx1
            · cases hf
          obtain ⟨ys, hyl, hys, hfr, hef⟩ := litx_gather _ _ _ _ h'
          have hok : ∀ p ∈ ps.map (fun p => (p.1, p.2.ev ts)), p.2.cellsOk = true := by
            intro p hp
            obtain ⟨j, hj⟩ := List.getElem?_of_mem hp
            have hjl : j < ys.length := by rw [hyl]; exact (List.getElem?_eq_some_iff.1 hj).1
            exact of_ok h0 (hys j p _ hj (List.getElem?_eq_getElem hjl))
          obtain ⟨hpost, hsz⟩ := lit_sound (P := P) hm h' he hi hz hzs hrs h0 hRL hok (by simp [hpl]; exact hsm)
          refine OpOK.value ?_ hpost
          have hrun := buildSlice_run (w := w) he hi hz hzs hsz (by simp [hpal]; rw [← hrs]; exact hsm)
          rw [← hpe] at hrun
          simp only [execOp, ho, Sem.run_bind]
          have hlv : (parts.toList.map fun p => a.eval p.2).length = len := by simpa using hpal
          rw [hlv] at hrun
          rw [hrun, hlv]
          rfl
        · cases hc
      · rename_i ps i hr hps hi
        split at hc
        · rename_i hcond
          obtain ⟨hix, hsm, hs1, hzz⟩ := hcond
          cases hc
          have h' := someE_some h
          obtain ⟨z, hz, hzs⟩ : ∃ z, i.zero = some z ∧ z.cells.size = i.size := by
            cases hzi : i.zero with
            | none => rw [hzi] at hzz; cases hzz
            | some z => rw [hzi] at hzz; exact ⟨z, rfl, by simpa using hzz⟩
          have hpl : ps.length = len := by have := congrArg List.length hix; simpa using this
          have hpal : parts.toList.length = len := by rw [← hpl, allSome_len hps]
          have hpe : (parts.map fun (p : Nat × Operand) => (p.1, a.eval p.2)) = ((List.range (parts.toList.map fun p => a.eval p.2).length).zip (parts.toList.map fun p => a.eval p.2)).toArray := by
            apply Array.ext'
            apply List.ext_getElem?
            intro j
            simp only [Array.toList_map, List.getElem?_map, List.length_map, hpal, List.getElem?_zip_eq_some, List.toList_toArray]
            cases hj : parts.toList[j]? with
            | none =>
              have : ((List.range len).zip (parts.toList.map fun p => a.eval p.2))[j]? = none := by
                rw [List.getElem?_eq_none_iff] at hj ⊢
                simp only [List.length_zip, List.length_range, List.length_map]
                omega
              rw [this]; rfl
            | some p =>
              obtain ⟨y, hy, hf⟩ := allSome_get hps j p hj
              have hjl : j < len := by rw [← hpal]; exact (List.getElem?_eq_some_iff.1 hj).1
              have h1 : (ps.map (·.1))[j]? = some j := by rw [hix]; simp [hjl]
              rw [List.getElem?_map, hy] at h1
              have hp1 : p.1 = j := by
                split at hf
                · cases hf; simpa using h1
                · cases hf
              have : ((List.range len).zip (parts.toList.map fun p => a.eval p.2))[j]? = some (j, a.eval p.2) := by
                rw [List.getElem?_zip_eq_some]
                exact ⟨by simp [hjl], by simp [hj]⟩
              rw [this]
              simp [hp1]
          have hRL : SV.RL w (β.away Z) β ((ps.map (·.2)).map fun p => p.ev ts) (parts.toList.map fun p => a.eval p.2) := by
            refine SV.RL_of_get _ _ (by simp [allSome_len hps]) fun j x v hx hv => ?_
            rw [List.map_map] at hx
            simp only [List.getElem?_map, Option.map_eq_some_iff] at hx hv
            obtain ⟨p, hp, rfl⟩ := hx
            obtain ⟨q, hq, rfl⟩ := hv
            obtain ⟨y, hy, hf⟩ := allSome_get hps j q hq
            rw [hp] at hy
            cases hy
            split at hf
            · rename_i x1 hx1
              cases hf
              exact opd_R hT hx1
            · cases hf
          unfold plitx at h'
          split at h'
          · rename_i hcond
            obtain ⟨hfr, hall⟩ := hcond
            cases h'
            have hone := ptrs_one _ _ hall hRL
            refine OpOK.value ?_ (plit_sound hm (by simpa using hfr) hRL (fun u hu => ⟨(hone u hu).1, by rw [(hone u hu).2]; rfl⟩) e)
            have hrun := buildSlice_run (P := P) (w := w) he hi hz hzs (fun v hv => by rw [hs1, (hone v hv).2]; rfl) (by simp [hpal, hs1]; exact hsm)
            rw [← hpe] at hrun
            simp only [execOp, ho, Sem.run_bind]
            have hlv : (parts.toList.map fun p => a.eval p.2).length = len := by simpa using hpal
            rw [hlv] at hrun
            have hfl : (parts.toList.map fun p => a.eval p.2).flatMap (fun v => v.cells.toList) = parts.toList.map fun p => a.eval p.2 := by
              clear hrun hRL hlv
              generalize (parts.toList.map fun p => a.eval p.2) = l at hone
              induction l with
              | nil => rfl
              | cons v l ih =>
                rw [List.flatMap_cons, ih fun u hu => hone u (List.mem_cons_of_mem _ hu), (hone v List.mem_cons_self).2]
                rfl
            rw [hfl] at hrun
            rw [hrun, hlv]
            rfl
          · cases h'
        · cases hc
      · cases hc
    · cases hc
  · -- load
    rename_i t x ho
    split at hc
    · rename_i n x' hn hx'
      cases hc
      have h' := someE_some h
      obtain ⟨hu, u, hrun, hr⟩ := loadx_sound (P := P) hm (opd_R hT hx') h' hn
      refine OpOK.value (v := u) (w' := w) (by simp [execOp, ho, hrun]) ⟨β, Step.refl w β, ?_, hr⟩
      rw [hu]
      exact hm
    · cases hc
  · -- store
    rename_i t x v ho
    split at hc
    · rename_i i x' v' hi hx' hv'
      cases hc
      have h' := someE_some h
      have hxR := opd_R hT hx'
      have hvR := opd_R hT hv'
      unfold storex at h'
      split at h'
      · rename_i k j fo hk
        rw [hk] at hxR
        split at h'
        · rename_i hcond
          obtain ⟨hn, hok⟩ := hcond
          split at h'
          · rename_i cs hg
            split at h'
            · rename_i hfit
              cases h'
              obtain ⟨w', hrun, hpost⟩ := store_box (P := P) hm hg hxR hvR hok hn hfit hi rfl _
              exact OpOK.skip (w' := w') (by simp [execOp, ho, hrun]) hpost
            · cases h'
          · rename_i ty cs hg
            split at h'
            · rename_i hfit
              cases h'
              obtain ⟨w', hrun, hpost⟩ := store_tbox (P := P) hm hg hxR hvR hok hn hfit hi rfl _
              exact OpOK.skip (w' := w') (by simp [execOp, ho, hrun]) hpost
            · cases h'
          · rename_i e r xs hg
            split at h'
            · rename_i hfit
              split at h'
              · rename_i y hy
                cases h'
                obtain ⟨w', hrun, hpost⟩ := store_row (P := P) hm hg hxR hvR hok hn hfit hy hi rfl _
                exact OpOK.skip (w' := w') (by simp [execOp, ho, hrun]) hpost
              · cases h'
            · cases h'
          · cases h'
        · cases h'
      · cases h'
    · cases hc
  · -- nilCheck
    rename_i x ho
    obtain ⟨y, hy, rfl⟩ := map_some' hc
    have hR := opd_R hT hy
    simp only [opx] at h
    split at h
    · rename_i k i fo hk
      cases h
      rw [hk] at hR
      have hR' := hR
      simp only [SV.R] at hR
      obtain ⟨l, _, ha⟩ := hR
      obtain ⟨ad, hv⟩ := addr_some ha
      exact OpOK.value (v := a.eval x) (w' := w) (by simp [execOp, ho, hv]) (PostE.same hm hR')
    · rename_i f c hk
      cases h
      rw [hk] at hR
      have hR' := hR
      simp only [SV.R] at hR
      obtain ⟨vs, hv, _⟩ := hR
      exact OpOK.value (v := a.eval x) (w' := w) (by simp [execOp, ho, hv]) (PostE.same hm hR')
    · rename_i f c hk
      cases h
      rw [hk] at hR
      have hR' := hR
      simp only [SV.R] at hR
      obtain ⟨vs, hv, _⟩ := hR
      exact OpOK.value (v := a.eval x) (w' := w) (by simp [execOp, ho, hv]) (PostE.same hm hR')
    · cases h
  · -- binOp
    rename_i op t x y ty ho
    split at hc
    · rename_i x' y' hx' hy'
      split at hc
      · split at hc
        · rename_i ks hks
          cases hc
          obtain ⟨v, hv, rfl⟩ := someV_some h
          exact ok_run hm (s := do eqGuard .eql t x y (a.eval x) (a.eval y); binOp .eql t (a.eval x) (a.eval y)) (by simp only [execOp, ho]) (eqsx_sound hks (.inl ⟨rfl, rfl⟩) hv (opd_R hT hx') (opd_R hT hy'))
        · rename_i ks hks
          cases hc
          obtain ⟨v, hv, rfl⟩ := someV_some h
          exact ok_run hm (s := do eqGuard .neq t x y (a.eval x) (a.eval y); binOp .neq t (a.eval x) (a.eval y)) (by simp only [execOp, ho]) (eqsx_sound hks (.inr ⟨rfl, rfl⟩) hv (opd_R hT hx') (opd_R hT hy'))
        · cases hc
      · split at hc
        · rename_i htk
          split at hc
          · rename_i hpi
            obtain ⟨e, j, ht, hj⟩ := ptrInfo_some hpi
            cases hc
            simp only [opx] at h
            have h' := someE_some h
            unfold binpx at h'
            split at h'
            · rename_i k i fo k' i' fo' hx1 hy1
              split at h'
              · rename_i hcond
                obtain ⟨rfl, rfl, rfl, hb⟩ := hcond
                have hxR := opd_R hT hx'
                have hyR := opd_R hT hy'
                rw [hx1] at hxR
                rw [hy1] at hyR
                obtain ⟨b, vs, ty', hv, _, _, _, hsame⟩ := box_addr hm hb hxR
                have hv2 := hsame _ hyR
                obtain ⟨u, hu, hupd, hr⟩ := nilTest_same (P := P) (w := w) (β := β) (A := β.away Z) (a := ⟨b, i + fo, none⟩) h' ht hj
                refine ok_run' hm hupd (s := do eqGuard op t x y (a.eval x) (a.eval y); binOp op t (a.eval x) (a.eval y)) (by simp only [execOp, ho]) ⟨u, ?_, hr⟩
                rw [hv2, hv, Sem.run_bind, eqGuard_plain op t x y _ _ (by intro c d e; cases e) (by intro e; cases e)]
                exact hu
              · cases h'
            · rw [binx_nat] at h'
              obtain ⟨v, hv, hk⟩ := Option.bind_eq_some_iff.1 h'
              cases hk
              exact ok_run hm (s := do eqGuard op t x y (a.eval x) (a.eval y); binOp op t (a.eval x) (a.eval y)) (by simp only [execOp, ho]) (binx_sound (by rw [htk]; exact hv) (opd_R hT hx') (opd_R hT hy'))
          · cases hc
            simp only [opx] at h
            rw [binx_nat] at h
            obtain ⟨v, hv, hk⟩ := Option.bind_eq_some_iff.1 h
            cases hk
            exact ok_run hm (s := do eqGuard op t x y (a.eval x) (a.eval y); binOp op t (a.eval x) (a.eval y)) (by simp only [execOp, ho]) (binx_sound (by rw [htk]; exact hv) (opd_R hT hx') (opd_R hT hy'))
        · cases hc
          simp only [opx] at h
          rw [binx_nat] at h
          obtain ⟨v, hv, hk⟩ := Option.bind_eq_some_iff.1 h
          cases hk
          exact ok_run hm (s := do eqGuard op t x y (a.eval x) (a.eval y); binOp op t (a.eval x) (a.eval y)) (by simp only [execOp, ho]) (binx_sound hv (opd_R hT hx') (opd_R hT hy'))
    · cases hc
  · -- unOp
    rename_i op t x ho
    obtain ⟨y, hy, rfl⟩ := map_some' hc
    obtain ⟨v, hv, rfl⟩ := someV_some h
    exact ok_run hm (s := Op.unary op (a.eval x)) (by simp only [execOp, ho]) (unx_sound hv (opd_R hT hy))
  · -- convert
    rename_i src dst x ho
    split at hc
    · rename_i k k' x' hs hd hx'
      cases hc
      simp only [opx] at h
      have hR := opd_R hT hx'
      split at h
      · rename_i k2 n hk
        cases h
        rw [hk] at hR
        simp only [SV.R] at hR
        exact ok_run hm (s := convert src dst (a.eval x)) (by simp only [execOp, ho]) ⟨.int k' (k'.wrap n), by simp [convert, run_underlying hs, run_underlying hd, hR, Conv.intToInt], rfl⟩
      · cases h
    · rename_i x' hs hd hx'
      cases hc
      simp only [opx] at h
      have hR := opd_R hT hx'
      split at h
      · rename_i s hk
        cases h
        rw [hk] at hR
        simp only [SV.R] at hR
        exact ok_run hm (s := convert src dst (a.eval x)) (by simp only [execOp, ho]) ⟨.string s, by simp [convert, run_underlying hs, run_underlying hd, hR], rfl⟩
      · cases h
    · rename_i e x' hs hd hx'
      split at hc
      · rename_i he
        cases hc
        simp only [opx] at h
        split at h
        · rename_i xs hxs
          cases h
          exact ok_run hm (s := convert src dst (a.eval x)) (by simp only [execOp, ho]) ⟨.string (strOfNums xs), b2s_sound hm hxs (opd_R hT hx') hs he hd, rfl⟩
        · cases h
      · cases hc
    · rename_i t x' hs hd hx'
      split at hc
      · rename_i j hj
        split at hc
        · rename_i hj0
          cases hc
          simp only [opx] at h
          obtain ⟨hr, hpost⟩ := utox_sound (P := P) hm (someE_some h) (opd_R hT hx') hs hd hj hj0
          exact OpOK.value (v := a.eval x) (w' := w) (by simp [execOp, ho, hr]) hpost
        · cases hc
      · cases hc
    · rename_i u x' hs hd hx'
      split at hc
      · rename_i j hj
        cases hc
        simp only [opx] at h
        obtain ⟨hr, hpost⟩ := ufromx_sound (P := P) hm (someE_some h) (opd_R hT hx') hs hd hj
        exact OpOK.value (v := a.eval x) (w' := w) (by simp [execOp, ho, hr]) hpost
      · cases hc
    · cases hc
  · -- slice
    rename_i t x lo hi ho
    split at hc
    · rename_i x' ht hx'
      split at hc
      · rename_i l' h' hl' hh'
        cases hc
        simp only [opx] at h
        rw [cutx_nat] at h
        obtain ⟨v, hv, hk⟩ := Option.bind_eq_some_iff.1 h
        cases hk
        obtain ⟨h1, h2⟩ := compOpt_R hT hl'
        obtain ⟨h3, h4⟩ := compOpt_R hT hh'
        exact ok_run hm (s := Instr.sliceAt t (a.eval x) (lo.map a.eval) (hi.map a.eval) ((none : Option Operand).map a.eval)) (by simp only [execOp, ho]) (cut_str hv ht (res_R hm (opd_R hT hx')) h1 h2 h3 h4)
      · cases hc
    · rename_i e x' ht hx'
      split at hc
      · rename_i l' h' i hl' hh' hi'
        cases hc
        simp only [opx] at h
        rw [cutx_nat] at h
        obtain ⟨v, hv, hk⟩ := Option.bind_eq_some_iff.1 h
        cases hk
        obtain ⟨h1, h2⟩ := compOpt_R hT hl'
        obtain ⟨h3, h4⟩ := compOpt_R hT hh'
        exact ok_run hm (s := Instr.sliceAt t (a.eval x) (lo.map a.eval) (hi.map a.eval) ((none : Option Operand).map a.eval)) (by simp only [execOp, ho]) (cut_slc hm hv ht hi' rfl (res_R hm (opd_R hT hx')) h1 h2 h3 h4)
      · cases hc
    · rename_i n e x' ht hx'
      split at hc
      · rename_i r ti hr hti
        split at hc
        · cases hc
          simp only [opx] at h
          obtain ⟨u, hu, hp⟩ := acutx_sound hm (someE_some h) ht hti (opd_R hT hx')
          refine OpOK.value (v := u) (w' := w) ?_ hp
          have hex : execOp a.eval o = (do pure (.value (← Instr.sliceAt t (a.eval x) none none none))) := by
            simp only [execOp, ho]
            rfl
          rw [hex, Sem.run_bind, hu]
          rfl
        · cases hc
      · cases hc
    · cases hc
  · -- fieldAddr
    rename_i s x f ho
    split at hc
    · rename_i fd x' hf hx'
      split at hc
      · cases hc
      · rename_i hne
        cases hc
        simp only [opx] at h
        have hR := opd_R hT hx'
        unfold fieldOf at hf
        split at hf
        · rename_i fs hfs
          have hrun : ∀ ad, a.eval x = .pointer (some ad) → (Instr.fieldAt s (a.eval x) f).run P w = .ok (.pointer (some (ad.add fd.offset))) w := by
            intro ad hv
            cases hi : P.info? fd.type with
            | none => simp [Program.cellsOf, hi] at hne
            | some i =>
              rw [cellsOf_info hi] at hne
              simp [Instr.fieldAt, run_underlying hfs, hf, hv, Instr.sureAddr, fieldPlace, sizeOf_run hi, hne]
          split at h
          · rename_i k i fo hk
            cases h
            rw [hk] at hR
            simp only [SV.R] at hR
            obtain ⟨l, hl, ha⟩ := hR
            obtain ⟨ad, hv⟩ := addr_some ha
            refine ok_run hm (s := Instr.fieldAt s (a.eval x) f) (by simp only [execOp, ho]) ⟨_, hrun ad hv, ?_⟩
            simp only [SV.R]
            refine ⟨l, hl, ?_⟩
            cases l with
            | box b =>
              simp only [LK.addr] at ha ⊢
              rw [hv] at ha
              cases ha
              rw [add_mk]
              simp [Nat.add_assoc]
            | row ad' cap n sz e =>
              cases ad' with
              | none => exact ha.elim
              | some g =>
                obtain ⟨h1, h2⟩ := ha
                rw [hv] at h2
                cases h2
                refine ⟨h1, ?_⟩
                rw [add_mk]
                simp [Nat.add_assoc]
            | froz ad' cap n sz e =>
              cases ad' with
              | none => exact ha.elim
              | some g =>
                obtain ⟨h1, h2⟩ := ha
                rw [hv] at h2
                cases h2
                refine ⟨h1, ?_⟩
                rw [add_mk]
                simp [Nat.add_assoc]
            | map b => exact ha.elim
            | gone => exact ⟨_, rfl⟩
          · rename_i e r xs i fo hk
            cases h
            rw [hk] at hR
            simp only [SV.R] at hR
            obtain ⟨hi, ad, cs, hv, hA, hlt, hl, hcc, hRR⟩ := hR
            refine ok_run hm (s := Instr.fieldAt s (a.eval x) f) (by simp only [execOp, ho]) ⟨_, hrun _ hv, ?_⟩
            simp only [SV.R]
            exact ⟨hi, ad, cs, by rw [add_add], hA, hlt, hl, hcc, hRR⟩
          · cases h
        · cases hf
    · cases hc
  · -- field
    rename_i s x f ho
    split at hc
    · rename_i fd x' hf hx'
      split at hc
      · rename_i n hn
        cases hc
        simp only [opx] at h
        have hR := opd_R hT hx'
        unfold fieldOf at hf
        split at hf
        · rename_i fs hfs
          split at h
          · rename_i cs hk
            obtain ⟨v, hv, rfl⟩ := someV_some h
            rw [hk] at hR
            simp only [SV.R] at hR
            obtain ⟨vs, hvs, hl, h1⟩ := hR
            obtain ⟨u, hu, hr⟩ := SV.RL_get _ _ hl _ _ hv
            exact ok_run hm (s := Instr.field s (a.eval x) f) (by simp only [execOp, ho]) ⟨u, by simp [Instr.field, run_underlying hfs, hf, hvs, asAgg, part, isAggT_run (sizeT_none hn), hu], hr⟩
          · rename_i cs n hk
            split at h
            · rename_i hfit
              cases h
              rw [hk] at hR
              simp only [SV.R] at hR
              obtain ⟨vs, hvs, hl, h1⟩ := hR
              obtain ⟨i, hi, hs, ha⟩ := sizeT_some hn
              refine ok_run hm (s := Instr.field s (a.eval x) f) (by simp only [execOp, ho]) ⟨.agg ((vs.drop fd.offset).take n).toArray, ?_, ?_⟩
              · simp [Instr.field, run_underlying hfs, hf, hvs, asAgg, part, isAggT_run ha, sizeOf_run hi, hs]
              · simp only [SV.R]
                exact ⟨_, rfl, SV.RL_take _ _ _ (SV.RL_drop _ _ _ hl), fun u hu => h1 u (List.mem_of_mem_drop (List.mem_of_mem_take hu))⟩
            · cases h
          · cases h
        · cases hf
      · cases hc
    · cases hc
  · -- indexAddr
    rename_i t x i ho
    split at hc
    · rename_i e x' i' ht hx' hi'
      split at hc
      · rename_i ti hti
        cases hc
        simp only [opx] at h
        rw [idxx_nat] at h
        obtain ⟨v, hv, hk⟩ := Option.bind_eq_some_iff.1 h
        cases hk
        exact ok_run hm (s := Instr.indexAt t (a.eval x) (a.eval i)) (by simp only [execOp, ho]) (idxx_sound hm hv ht hti rfl (res_R hm (opd_R hT hx')) (opd_R hT hi'))
      · cases hc
    · rename_i n e x' i' ht hx' hi'
      split at hc
      · rename_i ti hti
        cases hc
        simp only [opx] at h
        rw [aax_nat] at h
        obtain ⟨v, hv, hk⟩ := Option.bind_eq_some_iff.1 h
        cases hk
        exact ok_run hm (s := Instr.indexAt t (a.eval x) (a.eval i)) (by simp only [execOp, ho]) (aax_sound hv ht hti rfl (opd_R hT hx') (opd_R hT hi'))
      · cases hc
    · cases hc
  · -- index
    rename_i t x i ho
    split at hc
    · rename_i x' i' ht hx' hi'
      cases hc
      simp only [opx] at h
      rw [ivx_nat] at h
      obtain ⟨v, hv, hk⟩ := Option.bind_eq_some_iff.1 h
      cases hk
      exact ok_run hm (s := Instr.index t (a.eval x) (a.eval i)) (by simp only [execOp, ho]) (ivx_sound hv (opd_R hT hx') (opd_R hT hi') ht)
    · rename_i n e x' i' ht hx' hi'
      split at hc
      · rename_i ti g hti hg
        cases hc
        simp only [opx] at h
        rw [avx_nat] at h
        obtain ⟨v, hv, hk⟩ := Option.bind_eq_some_iff.1 h
        cases hk
        exact ok_run hm (s := Instr.index t (a.eval x) (a.eval i)) (by simp only [execOp, ho]) (avx_sound hv ht hti hg rfl (opd_R hT hx') (opd_R hT hi'))
      · cases hc
    · cases hc
  · -- extract
    rename_i x i ho
    obtain ⟨y, hy, rfl⟩ := map_some' hc
    have hR := opd_R hT hy
    simp only [opx] at h
    split at h
    · rename_i vs hk
      obtain ⟨v, hv, rfl⟩ := someV_some h
      rw [hk] at hR
      simp only [SV.R] at hR
      obtain ⟨us, hu, hl⟩ := hR
      obtain ⟨u, hu', hr⟩ := SV.RL_get _ _ hl _ _ hv
      exact ok_run hm (s := Instr.extract (a.eval x) i) (by simp only [execOp, ho]) ⟨u, by simp [Instr.extract, hu, hu'], hr⟩
    · cases h
  · -- call
    rename_i c ho
    unfold compCall at hc
    split at hc
    · split at hc
      · cases hc; cases hcall
      · cases hc
    · split at hc
      · cases hc; cases hcall
      · cases hc
    · -- len
      rename_i hcal
      split at hc
      · rename_i x t hax hat
        have hargs : c.args = #[x] := by rw [← Array.toArray_toList (xs := c.args), hax]
        have hty : c.argTypes = #[t] := by rw [← Array.toArray_toList (xs := c.argTypes), hat]
        have hex : execOp a.eval o = (do pure (.value (← Builtin.len_ #[t] o.type #[a.eval x]))) := by
          simp only [execOp, ho, resolve, hcal, hargs, hty, pure_bind, invoke, builtin, List.map_toArray, List.map_cons, List.map_nil]
        split at hc
        · rename_i x' hx' ht
          cases hc
          simp only [opx] at h
          obtain ⟨v, hv, rfl⟩ := len_some h
          exact ok_run hm hex (lenx_str hv (res_R hm (opd_R hT hx')) ht o.type)
        · rename_i x' e hx' ht
          cases hc
          simp only [opx] at h
          obtain ⟨v, hv, rfl⟩ := len_some h
          exact ok_run hm hex (lenx_slc hv (res_R hm (opd_R hT hx')) ht o.type)
        · cases hc
      · cases hc
    · -- cap
      rename_i hcal
      split at hc
      · rename_i x t hax hat
        have hargs : c.args = #[x] := by rw [← Array.toArray_toList (xs := c.args), hax]
        have hty : c.argTypes = #[t] := by rw [← Array.toArray_toList (xs := c.argTypes), hat]
        have hex : execOp a.eval o = (do pure (.value (← Builtin.cap_ #[t] o.type #[a.eval x]))) := by
          simp only [execOp, ho, resolve, hcal, hargs, hty, pure_bind, invoke, builtin, List.map_toArray, List.map_cons, List.map_nil]
        split at hc
        · rename_i x' e hx' ht
          cases hc
          simp only [opx] at h
          obtain ⟨v, hv, rfl⟩ := len_some h
          exact ok_run hm hex (lenx_cap hv (res_R hm (opd_R hT hx')) ht o.type)
        · cases hc
      · cases hc
    · -- append
      rename_i hcal
      split at hc
      · rename_i s x t t' has hat
        split at hc
        · rename_i htt
          subst htt
          obtain ⟨p, q, hargs, hs, hx⟩ := two_R hT has
          have hty : c.argTypes = #[t, t] := by rw [← Array.toArray_toList (xs := c.argTypes), hat]
          split at hc
          · rename_i e he
            split at hc
            · rename_i r i hr hi
              split at hc
              · rename_i z hz
                split at hc
                · rename_i hcond
                  cases hc
                  simp only [opx] at h
                  obtain ⟨hrs, h0⟩ := rowOf_pos hr
                  rw [cellsOf_info hi] at hrs
                  obtain ⟨v', w', hrun, hpost⟩ := appx_sound (P := P) (ty := o.type) hm h he hi hz hcond.1 hrs h0 rfl hcond.2 hs hx
                  refine OpOK.value (v := v') (w' := w') ?_ hpost
                  have hex : execOp a.eval o = (do pure (.value (← Builtin.append_ #[t, t] o.type #[a.eval p, a.eval q]))) := by
                    simp only [execOp, ho, resolve, hcal, hargs, hty, pure_bind, invoke, builtin, List.map_toArray, List.map_cons, List.map_nil]
                  rw [hex, Sem.run_bind, hrun]
                  rfl
                · cases hc
              · cases hc
            · cases hc
          · cases hc
        · split at hc
          · rename_i e he hu
            split at hc
            · rename_i r by_ hzt
              cases hc
              obtain ⟨p, q, hargs, hs, hx⟩ := two_R hT has
              have hty : c.argTypes = #[t, t'] := by rw [← Array.toArray_toList (xs := c.argTypes), hat]
              obtain ⟨hr, i, z, hi, hz, hzs, hb0, hzr, hby⟩ := zerosT_sound hzt
              simp only [opx] at h
              obtain ⟨hrs, h0⟩ := rowOf_pos hr
              rw [cellsOf_info hi] at hrs
              obtain ⟨v', w', hrun, hpost⟩ := growx_sound (P := P) (ty := o.type) hm h he hu hi hz hzs hrs h0 hby hb0 hzr hs hx
              refine OpOK.value (v := v') (w' := w') ?_ hpost
              have hex : execOp a.eval o = (do pure (.value (← Builtin.append_ #[t, t'] o.type #[a.eval p, a.eval q]))) := by
                simp only [execOp, ho, resolve, hcal, hargs, hty, pure_bind, invoke, builtin, List.map_toArray, List.map_cons, List.map_nil]
              rw [hex, Sem.run_bind, hrun]
              rfl
            · cases hc
          · rename_i e he hu
            split at hc
            · rename_i hbyte
              cases hc
              obtain ⟨p, q, hargs, hs, hx⟩ := two_R hT has
              have hty : c.argTypes = #[t, t'] := by rw [← Array.toArray_toList (xs := c.argTypes), hat]
              obtain ⟨i, hi, hz, hs1, hb1⟩ := isByte_info hbyte.2
              simp only [opx] at h
              split at h
              · rename_i b hxb
                rw [hxb] at hx
                simp only [SV.R] at hx
                obtain ⟨v', w', hrun, hpost⟩ := appss_sound (P := P) (ty := o.type) hm h he hu hi hz hs1 hb1 hs
                refine OpOK.value (v := v') (w' := w') ?_ hpost
                have hex : execOp a.eval o = (do pure (.value (← Builtin.append_ #[t, t'] o.type #[a.eval p, a.eval q]))) := by
                  simp only [execOp, ho, resolve, hcal, hargs, hty, pure_bind, invoke, builtin, List.map_toArray, List.map_cons, List.map_nil]
                rw [hex, Sem.run_bind, hx, hrun]
                rfl
              · cases h
            · cases hc
          · cases hc
      · cases hc
    · -- clear
      rename_i hcal
      split at hc
      · rename_i x t hax hat
        have hargs : c.args = #[x] := by rw [← Array.toArray_toList (xs := c.args), hax]
        have hty : c.argTypes = #[t] := by rw [← Array.toArray_toList (xs := c.argTypes), hat]
        split at hc
        · rename_i x' e hx' ht
          split at hc
          · rename_i r by_ hzt
            cases hc
            obtain ⟨hr, i, z, hi, hz, hzs, hb0, hzr, hby⟩ := zerosT_sound hzt
            obtain ⟨hrs, h0⟩ := rowOf_pos hr
            rw [cellsOf_info hi] at hrs
            obtain ⟨ef0, h0', rfl⟩ := map_some' (someE_some h)
            obtain ⟨w', hrun, hpost⟩ := clrx_sound (P := P) (ty := o.type) hm h0' ht hi hz hzs hrs hzr (res_R hm (opd_R hT hx'))
            refine OpOK.value (v := .tuple #[]) (w' := w') ?_ hpost
            have hex : execOp a.eval o = (do pure (.value (← Builtin.clear_ #[t] o.type #[a.eval x]))) := by
              simp only [execOp, ho, resolve, hcal, hargs, hty, pure_bind, invoke, builtin, List.map_toArray, List.map_cons, List.map_nil]
            rw [hex, Sem.run_bind, hrun]
            rfl
          · cases hc
        · cases hc
      · cases hc
    · -- unsafe.SliceData
      rename_i hcal
      split at hc
      · rename_i x hax
        split at hc
        · rename_i y hy
          cases hc
          have hargs : c.args = #[x] := by rw [← Array.toArray_toList (xs := c.args), hax]
          simp only [opx] at h
          obtain ⟨u, hu, hpost⟩ := usdx_sound (P := P) hm h (res_R hm (opd_R hT hy)) c.argTypes o.type
          refine OpOK.value (v := u) (w' := w) ?_ hpost
          have hex : execOp a.eval o = (do pure (.value (← Builtin.unsafeSliceData_ c.argTypes o.type #[a.eval x]))) := by
            simp only [execOp, ho, resolve, hcal, hargs, pure_bind, invoke, builtin, List.map_toArray, List.map_cons, List.map_nil]
          rw [hex, Sem.run_bind, hu]
          rfl
        · cases hc
      · cases hc
    · -- unsafe.String
      rename_i hcal
      split at hc
      · rename_i x n pt it hxn hat
        split at hc
        · rename_i e hp
          split at hc
          · rename_i hcell
            cases hc
            obtain ⟨p, q, hargs, hx, hn⟩ := two_R hT hxn
            have hty : c.argTypes = #[pt, it] := by rw [← Array.toArray_toList (xs := c.argTypes), hat]
            simp only [opx] at h
            obtain ⟨u, w', hu, hpost⟩ := ustrx_sound (P := P) (it := it) (ty := o.type) hm h hx hn hp hcell
            refine OpOK.value (v := u) (w' := w') ?_ hpost
            have hex : execOp a.eval o = (do pure (.value (← Builtin.unsafeString_ #[pt, it] o.type #[a.eval p, a.eval q]))) := by
              simp only [execOp, ho, resolve, hcal, hargs, hty, pure_bind, invoke, builtin, List.map_toArray, List.map_cons, List.map_nil]
            rw [hex, Sem.run_bind, hu]
            rfl
          · cases hc
        · cases hc
      · cases hc
    · -- min
      rename_i hcal
      split at hc
      · rename_i x y hxy
        cases hc
        obtain ⟨p, q, hargs, hx, hy⟩ := two_R hT hxy
        simp only [opx] at h
        split at h
        · rename_i k n k' n' hk hk'
          cases h
          rw [hk] at hx
          rw [hk'] at hy
          simp only [SV.R] at hx hy
          refine OpOK.value (v := .int k (if n' < n then n' else n)) (w' := w) ?_ (PostE.same hm rfl)
          simp only [execOp, ho, resolve, hcal, hargs]
          simp [hx, hy, invoke, builtin, Builtin.min_, Builtin.min2]
        · cases h
      · cases hc
    · -- max
      rename_i hcal
      split at hc
      · rename_i x y hxy
        cases hc
        obtain ⟨p, q, hargs, hx, hy⟩ := two_R hT hxy
        simp only [opx] at h
        split at h
        · rename_i k n k' n' hk hk'
          cases h
          rw [hk] at hx
          rw [hk'] at hy
          simp only [SV.R] at hx hy
          refine OpOK.value (v := .int k (if n' > n then n' else n)) (w' := w) ?_ (PostE.same hm rfl)
          simp only [execOp, ho, resolve, hcal, hargs]
          simp [hx, hy, invoke, builtin, Builtin.max_, Builtin.max2]
        · cases h
      · cases hc
    · cases hc
  · -- makeFunc
    rename_i f first cap ho
    split at hc
    · rename_i hf
      obtain ⟨ys, hys, rfl⟩ := map_some' hc
      cases h
      refine ok_run hm (s := Instr.makeFunc (.func f) (first.map a.eval) (cap.map a.eval)) (by simp only [execOp, ho]) ⟨_, rfl, ?_⟩
      simp only [SV.R]
      refine ⟨cap.toList.map a.eval, ?_, opds_R hT hys⟩
      rw [Array.isEmpty_iff] at hf
      subst hf
      have : cap.map a.eval = (cap.toList.map a.eval).toArray := by apply Array.ext'; simp
      rw [this]
      simp
    · split at hc
      · rename_i hf
        obtain ⟨ys, hys, rfl⟩ := map_some' hc
        cases h
        refine ok_run hm (s := Instr.makeFunc (.func f) (first.map a.eval) (cap.map a.eval)) (by simp only [execOp, ho]) ⟨_, rfl, ?_⟩
        simp only [SV.R]
        refine ⟨first.toList.map a.eval, ?_, opds_R hT hys⟩
        rw [Array.isEmpty_iff] at hf
        subst hf
        have : first.map a.eval = (first.toList.map a.eval).toArray := by apply Array.ext'; simp
        rw [this]
        simp
      · cases hc
  · -- makeMap
    rename_i t ho
    split at hc
    · rename_i kr agg vp hmt
      cases hc
      simp only [opx] at h
      obtain ⟨u, w', hrun, hpost⟩ := mkmapx_sound (P := P) hm (someE_some h) t
      refine OpOK.value (v := u) (w' := w') ?_ hpost
      have hex : execOp a.eval o = (do pure (.value (← Instr.makeMap t none))) := by
        simp only [execOp, ho, Option.map_none]
      rw [hex, Sem.run_bind, hrun]
      rfl
    · cases hc
  · -- lookup
    rename_i t x i ok ho
    split at hc
    · rename_i kr agg vp x' i' hmt hx' hi'
      cases hc
      simp only [opx] at h
      obtain ⟨hup, u, hrun, hr⟩ := lookx_sound (P := P) hm (someE_some h) hmt (opd_R hT hx') (opd_R hT hi')
      refine OpOK.value (v := u) (w' := w) ?_ ⟨β, Step.refl w β, ?_, hr⟩
      · have hex : execOp a.eval o = (do pure (.value (← Instr.lookup t (a.eval x) (a.eval i) ok))) := by
          simp only [execOp, ho]
        rw [hex, Sem.run_bind, hrun]
        rfl
      · rw [hup]
        exact hm
    · cases hc
  · -- mapUpdate
    rename_i t x i v ho
    split at hc
    · rename_i kr agg vp x' i' v' hmt hx' hi' hv'
      cases hc
      simp only [opx] at h
      obtain ⟨w', hrun, hpost⟩ := mupx_sound (P := P) hm (someE_some h) hmt (opd_R hT hx') (opd_R hT hi') (opd_R hT hv')
      exact OpOK.skip (w' := w') (by simp [execOp, ho, hrun]) hpost
    · cases hc
  · -- mapEntry
    rename_i t x i ho
    split at hc
    · rename_i kr agg vp x' i' hmt hx' hi'
      cases hc
      simp only [opx] at h
      obtain ⟨u, w', hrun, hpost⟩ := mentryx_sound (P := P) hm (someE_some h) hmt (opd_R hT hx') (opd_R hT hi')
      refine OpOK.value (v := u) (w' := w') ?_ hpost
      have hex : execOp a.eval o = (do pure (.value (← Instr.mapEntry t (a.eval x) (a.eval i)))) := by
        simp only [execOp, ho]
      rw [hex, Sem.run_bind, hrun]
      rfl
    · cases hc
  · -- entryStore
    rename_i t x i v ho
    split at hc
    · rename_i kr agg vp x' i' v' hmt hx' hi' hv'
      cases hc
      simp only [opx] at h
      obtain ⟨w', hrun, hpost⟩ := mstorex_sound (P := P) hm (someE_some h) t (opd_R hT hx') (opd_R hT hi') (opd_R hT hv')
      exact OpOK.skip (w' := w') (by simp [execOp, ho, hrun]) hpost
    · cases hc
  · -- makeSlice
    rename_i t n c ho
    split at hc
    · rename_i e a' b' ht ha' hb'
      split at hc
      · rename_i r by_ hzt
        cases hc
        obtain ⟨hr, i, z, hi, hz, hzs, hb0, hzr, hby⟩ := zerosT_sound hzt
        simp only [opx] at h
        obtain ⟨hrs, h0⟩ := rowOf_pos hr
        rw [cellsOf_info hi] at hrs
        obtain ⟨v', w', hrun, hpost⟩ := mkx_sound (P := P) hm h ht hi hz hzs hrs h0 hby hb0 hzr (opd_R hT ha') (opd_R hT hb')
        refine OpOK.value (v := v') (w' := w') ?_ hpost
        have hex : execOp a.eval o = (do pure (.value (← Instr.makeSlice t (a.eval n) (a.eval c)))) := by
          simp only [execOp, ho]
        rw [hex, Sem.run_bind, hrun]
        rfl
      · cases hc
    · cases hc
  · cases hc
end
end Go.Proofs.YtgakbdikappdbaaGreat.S2
set_option linter.unusedVariables false
set_option linter.unusedSimpArgs false
namespace Go.Proofs.YtgakbdikappdbaaGreat.S2
open Go
def CallRun (P : Program) (f : FuncId) (args : Array Value) (w : World) (Post : Value → World → Prop) : Prop :=
  (∃ u w', (callFunc f args).run P w = .ok (.value u) w' ∧ Post u w') ∨
  ((callFunc f args).run P w = .ok (.enter f args) w ∧ Calls P f args w fun e w' => ∃ u, e = .returned u ∧ Post u w')
theorem CallRun.mono {P : Program} {f : FuncId} {args : Array Value} {w : World} {Post Post' : Value → World → Prop} (h : CallRun P f args w Post) (hp : ∀ u w', Post u w' → Post' u w') : CallRun P f args w Post' := by
  rcases h with ⟨u, w', h1, h2⟩ | ⟨h1, h2⟩
  · exact .inl ⟨u, w', h1, hp u w' h2⟩
  · exact .inr ⟨h1, h2.mono fun e w' ⟨u, he, hu⟩ => ⟨u, he, hp u w' hu⟩⟩
def CallOK (P : Program) (f : FuncId) (args : List SV) (m : Mem) (v : SV) (m' : Mem) : Prop :=
  ∀ (w : World) (Z : Nat → Prop) (β : Loc) (vs : List Value), MR w Z β m → SV.RL w (β.away Z) β args vs →
    CallRun P f vs.toArray w fun u w' => ∃ β', Step w w' β β' ∧ MR w' Z β' (m.sets m') ∧ v.R w' (β'.away Z) β' u
theorem distinct_nodup : ∀ {l : List Nat}, distinct l = true → l.Nodup
  | [], _ => List.nodup_nil
  | k :: l, h => by
    simp only [distinct, Bool.and_eq_true, Bool.not_eq_true'] at h
    exact List.nodup_cons.2 ⟨by simpa using h.1, distinct_nodup h.2⟩
theorem posIn_some : ∀ {ks : List Nat} {i q j : Nat}, posIn ks i q = some j → i ≤ j ∧ ks[j - i]? = some q
  | [], i, q, j, h => by cases h
  | k :: ks, i, q, j, h => by
    simp only [posIn] at h
    split at h
    · rename_i hq
      cases h
      subst hq
      exact ⟨Nat.le_refl _, by simp⟩
    · obtain ⟨h1, h2⟩ := posIn_some h
      refine ⟨by omega, ?_⟩
      rw [show j - i = (j - (i + 1)) + 1 by omega]
      simpa using h2
theorem posIn_mem : ∀ {ks : List Nat} {i q : Nat}, q ∈ ks → ∃ j, posIn ks i q = some j
  | k :: ks, i, q, h => by
    simp only [posIn]
    by_cases hq : q = k
    · exact ⟨i, by rw [if_pos hq]⟩
    · rw [if_neg hq]
      exact posIn_mem ((List.mem_cons.1 h).resolve_left hq)
theorem get_subMem {m : Mem} {ρ : Nat → Option Nat} : ∀ (ks : List Nat) (i j : Nat), (subMem m ρ ks i).get j = if i ≤ j then (match ks[j - i]? with | some k => (m.get k).map (Ob.ren ρ) | none => none) else none
  | [], i, j => by simp [subMem, Mem.get]
  | k :: ks, i, j => by
    simp only [subMem]
    by_cases hj : j = i
    · subst hj
      cases hk : m.get k with
      | none =>
        simp only
        rw [get_subMem ks (j + 1) j, if_neg (by omega), if_pos (Nat.le_refl _)]
        simp [hk]
      | some o => simp [Mem.get, hk]
    · have hrest := get_subMem (m := m) (ρ := ρ) ks (i + 1) j
      by_cases hlt : i ≤ j
      · have e : j - i = (j - (i + 1)) + 1 := by omega
        have hle : i + 1 ≤ j := by omega
        rw [if_pos hle] at hrest
        rw [if_pos hlt, e, List.getElem?_cons_succ]
        cases hk : m.get k with
        | none => exact hrest
        | some o => simp only [Mem.get, if_neg hj]; exact hrest
      · have hle : ¬ i + 1 ≤ j := by omega
        rw [if_neg hle] at hrest
        rw [if_neg hlt]
        cases hk : m.get k with
        | none => exact hrest
        | some o => simp only [Mem.get, if_neg hj]; exact hrest
section
variable {w : World} {A A' : Nat → Prop} {β β' : Loc}
mutual
/-- Under other names. -/
theorem SV.ren_R (hst : Stays w w A A') {ρ : Nat → Option Nat} (hρ : ∀ k l j, β k = some l → ρ k = some j → β' j = some l) : (x : SV) → (v : Value) → x.R w A β v → (x.ren ρ).R w A' β' v
  | .dead, _, _ => trivial
  | .int k n, v, e => e
  | .bool b, v, e => e
  | .str s, v, e => e
  | .sl k off len, v, hr => by
    simp only [SV.ren]
    split
    · rename_i k' hk
      simp only [SV.R] at hr ⊢
      obtain ⟨l, hl, hp⟩ := hr
      exact ⟨l, hρ k l k' hl hk, hp⟩
    · trivial
  | .slw k, v, hr => by
    simp only [SV.ren]
    split
    · rename_i k' hk
      simp only [SV.R] at hr ⊢
      obtain ⟨l, hl, hp⟩ := hr
      exact ⟨l, hρ k l k' hl hk, hp⟩
    · trivial
  | .ps e r xs, v, hr => Prim.R_stays hst (.slc e r) xs v hr
  | .nils, v, e => e
  | .pe, v, e => e
  | .ptr k i fo, v, hr => by
    simp only [SV.ren]
    split
    · rename_i k' hk
      simp only [SV.R] at hr ⊢
      obtain ⟨l, hl, hp⟩ := hr
      exact ⟨l, hρ k l k' hl hk, hp⟩
    · trivial
  | .pptr e r xs i fo, v, hr => SV.R_step hst (Loc.le_refl β) (.pptr e r xs i fo) v hr
  | .nilp, v, e => e
  | .agg cs, v, hr => by
    simp only [SV.ren, SV.R] at hr ⊢
    obtain ⟨vs, hv, hl, h1⟩ := hr
    exact ⟨vs, hv, SV.renL_R hst hρ cs vs hl, h1⟩
  | .tup cs, v, hr => by
    simp only [SV.ren, SV.R] at hr ⊢
    obtain ⟨vs, hv, hl⟩ := hr
    exact ⟨vs, hv, SV.renL_R hst hρ cs vs hl⟩
  | .fn f cs, v, hr => by
    simp only [SV.ren, SV.R] at hr ⊢
    obtain ⟨vs, hv, hl⟩ := hr
    exact ⟨vs, hv, SV.renL_R hst hρ cs vs hl⟩
  | .bf f cs, v, hr => by
    simp only [SV.ren, SV.R] at hr ⊢
    obtain ⟨vs, hv, hl⟩ := hr
    exact ⟨vs, hv, SV.renL_R hst hρ cs vs hl⟩
  | .nilf, v, e => e
  | .nili, v, e => e
  | .nilm, v, e => e
  | .bsl k n, v, hr => by
    simp only [SV.ren]
    split
    · rename_i k' hk
      simp only [SV.R] at hr ⊢
      obtain ⟨l, hl, hp⟩ := hr
      exact ⟨l, hρ k l k' hl hk, hp⟩
    · trivial
  | .mp k, v, hr => by
    simp only [SV.ren]
    split
    · rename_i k' hk
      simp only [SV.R] at hr ⊢
      obtain ⟨l, hl, hp⟩ := hr
      exact ⟨l, hρ k l k' hl hk, hp⟩
    · trivial
theorem SV.renL_R (hst : Stays w w A A') {ρ : Nat → Option Nat} (hρ : ∀ k l j, β k = some l → ρ k = some j → β' j = some l) : (l : List SV) → (vs : List Value) → SV.RL w A β l vs → SV.RL w A' β' (SV.ren.renL ρ l) vs
  | [], vs, e => e
  | x :: l, vs, hr => by
    simp only [SV.ren.renL, SV.RL] at hr ⊢
    obtain ⟨v, vs', hv, hx, hl⟩ := hr
    exact ⟨v, vs', hv, SV.ren_R hst hρ x v hx, SV.renL_R hst hρ l vs' hl⟩
end
mutual
/-- Under other names, where there is no list that nobody writes. -/
theorem SV.ren_R' {ρ : Nat → Option Nat} (hρ : ∀ k l j, β k = some l → ρ k = some j → β' j = some l) : (x : SV) → (v : Value) → x.hasPs = false → x.R w A β v → (x.ren ρ).R w A' β' v
  | .dead, _, _, _ => trivial
  | .int k n, v, _, e => e
  | .bool b, v, _, e => e
  | .str s, v, _, e => e
  | .sl k off len, v, _, hr => by
    simp only [SV.ren]
    split
    · rename_i k' hk
      simp only [SV.R] at hr ⊢
      obtain ⟨l, hl, hp⟩ := hr
      exact ⟨l, hρ k l k' hl hk, hp⟩
    · trivial
  | .slw k, v, _, hr => by
    simp only [SV.ren]
    split
    · rename_i k' hk
      simp only [SV.R] at hr ⊢
      obtain ⟨l, hl, hp⟩ := hr
      exact ⟨l, hρ k l k' hl hk, hp⟩
    · trivial
  | .ps e r xs, v, h, hr => by cases h
  | .nils, v, _, e => e
  | .pe, v, _, e => e
  | .ptr k i fo, v, _, hr => by
    simp only [SV.ren]
    split
    · rename_i k' hk
      simp only [SV.R] at hr ⊢
      obtain ⟨l, hl, hp⟩ := hr
      exact ⟨l, hρ k l k' hl hk, hp⟩
    · trivial
  | .pptr e r xs i fo, v, h, hr => by cases h
  | .nilp, v, _, e => e
  | .agg cs, v, h, hr => by
    simp only [SV.ren, SV.R] at hr ⊢
    obtain ⟨vs, hv, hl, h1⟩ := hr
    exact ⟨vs, hv, SV.renL_R' hρ cs vs (by simpa [SV.hasPs] using h) hl, h1⟩
  | .tup cs, v, h, hr => by
    simp only [SV.ren, SV.R] at hr ⊢
    obtain ⟨vs, hv, hl⟩ := hr
    exact ⟨vs, hv, SV.renL_R' hρ cs vs (by simpa [SV.hasPs] using h) hl⟩
  | .fn f cs, v, h, hr => by
    simp only [SV.ren, SV.R] at hr ⊢
    obtain ⟨vs, hv, hl⟩ := hr
    exact ⟨vs, hv, SV.renL_R' hρ cs vs (by simpa [SV.hasPs] using h) hl⟩
  | .bf f cs, v, h, hr => by
    simp only [SV.ren, SV.R] at hr ⊢
    obtain ⟨vs, hv, hl⟩ := hr
    exact ⟨vs, hv, SV.renL_R' hρ cs vs (by simpa [SV.hasPs] using h) hl⟩
  | .nilf, v, _, e => e
  | .nili, v, _, e => e
  | .nilm, v, _, e => e
  | .mp k, v, _, hr => by
    simp only [SV.ren]
    split
    · rename_i k' hk
      simp only [SV.R] at hr ⊢
      obtain ⟨l, hl, hp⟩ := hr
      exact ⟨l, hρ k l k' hl hk, hp⟩
    · trivial
  | .bsl k n, v, _, hr => by
    simp only [SV.ren]
    split
    · rename_i k' hk
      simp only [SV.R] at hr ⊢
      obtain ⟨l, hl, hp⟩ := hr
      exact ⟨l, hρ k l k' hl hk, hp⟩
    · trivial
theorem SV.renL_R' {ρ : Nat → Option Nat} (hρ : ∀ k l j, β k = some l → ρ k = some j → β' j = some l) : (l : List SV) → (vs : List Value) → SV.hasPs.hasL l = false → SV.RL w A β l vs → SV.RL w A' β' (SV.ren.renL ρ l) vs
  | [], vs, _, e => e
  | x :: l, vs, h, hr => by
    simp only [SV.ren.renL, SV.RL] at hr ⊢
    simp only [SV.hasPs.hasL, Bool.or_eq_false_iff] at h
    obtain ⟨v, vs', hv, hx, hl⟩ := hr
    exact ⟨v, vs', hv, SV.ren_R' hρ x v h.1 hx, SV.renL_R' hρ l vs' h.2 hl⟩
end
theorem Row.R_plain : (r : Row) → r.hasSlc = false → (x : r.T) → (cs : List Value) → r.R w A x cs → r.R w A' x cs
  | .nil, _, _, cs, e => e
  | .cons (.int k) .nil, h, x, cs, hr => hr
  | .cons .bool .nil, h, x, cs, hr => hr
  | .cons .str .nil, h, x, cs, hr => hr
  | .cons (.slc e r) _, h, x, cs, hr => by cases h
  | .cons (.int k) (.cons q r), h, x, cs, hr => by
    obtain ⟨v, vs, hv, hp, hr⟩ := hr
    exact ⟨v, vs, hv, hp, Row.R_plain (.cons q r) h _ _ hr⟩
  | .cons .bool (.cons q r), h, x, cs, hr => by
    obtain ⟨v, vs, hv, hp, hr⟩ := hr
    exact ⟨v, vs, hv, hp, Row.R_plain (.cons q r) h _ _ hr⟩
  | .cons .str (.cons q r), h, x, cs, hr => by
    obtain ⟨v, vs, hv, hp, hr⟩ := hr
    exact ⟨v, vs, hv, hp, Row.R_plain (.cons q r) h _ _ hr⟩
theorem EntriesR.plain {kr : Row} {agg : Bool} {vp : Prim} (hk : kr.hasSlc = false) (hv : (Row.cons vp .nil).hasSlc = false) : ∀ {i : Nat} {es : List (kr.T × vp.T)} {l : List MapEntry}, EntriesR w A kr agg vp i es l → EntriesR w A' kr agg vp i es l
  | _, [], _, he => he
  | i, e :: es, l, he => by
    obtain ⟨x, l', h1, h2, h3, h4, h5⟩ := he
    refine ⟨x, l', h1, h2, ?_, ?_, EntriesR.plain hk hv h5⟩
    · cases agg with
      | true => obtain ⟨cs, hc, hr⟩ := h3; exact ⟨cs, hc, Row.R_plain kr hk _ _ hr⟩
      | false => exact Row.R_plain kr hk _ _ h3
    · have := Row.R_plain (w := w) (A := A) (A' := A') (.cons vp .nil) hv e.2 [x.val] ⟨x.val, rfl, h4⟩
      obtain ⟨v, hv', hr⟩ := this
      simp at hv'
      subst hv'
      exact hr
theorem ObR.ren (hst : Stays w w A A') {ρ : Nat → Option Nat} (hρ : ∀ k l j, β k = some l → ρ k = some j → β' j = some l) {l : LK} {o : Ob} (h : ObR w A β l o) : ObR w A' β' l (o.ren ρ) := by
  cases l with
  | box b =>
    cases o with
    | cells cs =>
      obtain ⟨vs, t, hh, hl, h1⟩ := h
      exact ⟨vs, t, hh, SV.renL_R hst hρ cs _ hl, h1⟩
    | tcells t cs =>
      obtain ⟨vs, hh, hl, h1⟩ := h
      exact ⟨vs, hh, SV.renL_R hst hρ cs _ hl, h1⟩
    | _ => exact h.elim
  | row =>
    cases o with
    | row e' r xs =>
      obtain ⟨he, hsz, h0, hn, cells, ho, hr⟩ := h
      exact ⟨he, hsz, h0, hn, cells, ho, hr.stays hst⟩
    | _ => exact h.elim
  | froz =>
    cases o with
    | froz e' r xs =>
      obtain ⟨he, hsz, hn, hr⟩ := h
      exact ⟨he, hsz, hn, Prim.R_stays hst (.slc e' r) xs _ hr⟩
    | _ => exact h.elim
  | map b =>
    cases o with
    | map kr agg vp es =>
      obtain ⟨l, hh, hr⟩ := h
      exact ⟨l, hh, hr.stays hst⟩
    | _ => exact h.elim
  | gone =>
    cases o with
    | gone => trivial
    | _ => exact h.elim
theorem ObR.ren' {ρ : Nat → Option Nat} (hρ : ∀ k l j, β k = some l → ρ k = some j → β' j = some l) {l : LK} {o : Ob} (hps : o.hasPs = false) (h : ObR w A β l o) : ObR w A' β' l (o.ren ρ) := by
  cases l with
  | box b =>
    cases o with
    | cells cs =>
      obtain ⟨vs, t, hh, hl, h1⟩ := h
      exact ⟨vs, t, hh, SV.renL_R' hρ cs _ hps hl, h1⟩
    | tcells t cs =>
      obtain ⟨vs, hh, hl, h1⟩ := h
      exact ⟨vs, hh, SV.renL_R' hρ cs _ hps hl, h1⟩
    | _ => exact h.elim
  | row =>
    cases o with
    | row e' r xs =>
      obtain ⟨he, hsz, h0, hn, cells, ho, hr⟩ := h
      exact ⟨he, hsz, h0, hn, cells, ho, fun j hj => Row.R_plain r hps _ _ (hr j hj)⟩
    | _ => exact h.elim
  | froz =>
    cases o with
    | froz e' r xs => cases hps
    | _ => exact h.elim
  | map b =>
    cases o with
    | map kr agg vp es =>
      obtain ⟨l, hh, hr⟩ := h
      simp only [Ob.hasPs, Bool.or_eq_false_iff] at hps
      exact ⟨l, hh, hr.plain hps.1 hps.2⟩
    | _ => exact h.elim
  | gone =>
    cases o with
    | gone => trivial
    | _ => exact h.elim
end
section
variable {P : Program} {w : World} {Z : Nat → Prop} {β : Loc} {m : Mem}
mutual
/-- An argument as a callee has it that writes no list. -/
theorem SV.pure_R (hm : MR w Z β m) {lent : List Nat} {A' : Nat → Prop} (hA : ∀ b, A' b → (β.freezeL lent).away Z b) {β' : Loc} {ρ : Nat → Option Nat} (hρ : ∀ k l j, β k = some l → ρ k = some j → β' j = some l) :
    (x : SV) → (v : Value) → (∀ k, k ∈ x.lent m → k ∈ lent) → x.R w (β.away Z) β v → ((x.pure m).ren ρ).R w A' β' v
  | .sl k off len, v, hk, hr => by
    have hst : Stays w w ((β.freezeL lent).away Z) A' := ⟨Nat.le_refl _, fun b _ hb => ⟨rfl, fun h => hb (hA b h)⟩⟩
    simp only [SV.pure]
    split
    · rename_i e r xs hg
      have h1 := Prim.of_frz hm (ks := lent) (.slc e r) (.sl k off len) ((xs.drop off).take len) v (by simp [Prim.of, hg, castRow]) (by
        intro k' hk'
        simp only [SV.keys1, List.mem_singleton] at hk'
        subst hk'
        exact hk k' (by simp [SV.lent, hg])) hr
      exact Prim.R_stays hst (.slc e r) _ v h1
    · rename_i e r xs hg
      obtain ⟨l, hl, hob⟩ := hm.obs k _ hg
      have hr' := hr
      simp only [SV.R] at hr
      obtain ⟨l', hl', hp⟩ := hr
      rw [hl] at hl'
      cases hl'
      have h1 := Prim.of_frz hm (ks := k :: lent) (.slc e r) (.sl k off len) ((xs.drop off).take len) v (by simp [Prim.of, hg, castRow]) (by
        intro k' hk'
        simp only [SV.keys1, List.mem_singleton] at hk'
        subst hk'
        exact List.mem_cons_self) hr'
      refine Prim.R_stays ⟨Nat.le_refl _, fun b _ hb => ⟨rfl, fun h => hb ?_⟩⟩ (.slc e r) _ v h1
      rcases hA b h with ⟨q, lq, hq, ho⟩ | hz
      · refine .inl ⟨q, lq, ?_, ho⟩
        simp only [Loc.freezeL] at hq ⊢
        by_cases hqk : q = k
        · subst hqk
          exfalso
          cases l with
          | froz =>
            rw [hl] at hq
            split at hq
            · cases hq; cases ho
            · cases hq; cases ho
          | _ => exact hob.elim
        · simp only [List.mem_cons, hqk, false_or]
          exact hq
      · exact .inr hz
    · trivial
  | .slw k, v, hk, hr => by
    have hst : Stays w w ((β.freezeL lent).away Z) A' := ⟨Nat.le_refl _, fun b _ hb => ⟨rfl, fun h => hb (hA b h)⟩⟩
    simp only [SV.pure]
    split
    · rename_i e r xs hg
      have h1 := Prim.of_frz hm (ks := lent) (.slc e r) (.slw k) xs v (by simp [Prim.of, hg, castRow]) (by
        intro k' hk'
        simp only [SV.keys1, List.mem_singleton] at hk'
        subst hk'
        exact hk k' (by simp [SV.lent, hg])) hr
      exact Prim.R_stays hst (.slc e r) _ v h1
    · rename_i e r xs hg
      obtain ⟨l, hl, hob⟩ := hm.obs k _ hg
      have hr' := hr
      simp only [SV.R] at hr
      obtain ⟨l', hl', hp⟩ := hr
      rw [hl] at hl'
      cases hl'
      have h1 := Prim.of_frz hm (ks := k :: lent) (.slc e r) (.slw k) xs v (by simp [Prim.of, hg, castRow]) (by
        intro k' hk'
        simp only [SV.keys1, List.mem_singleton] at hk'
        subst hk'
        exact List.mem_cons_self) hr'
      refine Prim.R_stays ⟨Nat.le_refl _, fun b _ hb => ⟨rfl, fun h => hb ?_⟩⟩ (.slc e r) _ v h1
      rcases hA b h with ⟨q, lq, hq, ho⟩ | hz
      · refine .inl ⟨q, lq, ?_, ho⟩
        simp only [Loc.freezeL] at hq ⊢
        by_cases hqk : q = k
        · subst hqk
          exfalso
          cases l with
          | froz =>
            rw [hl] at hq
            split at hq
            · cases hq; cases ho
            · cases hq; cases ho
          | _ => exact hob.elim
        · simp only [List.mem_cons, hqk, false_or]
          exact hq
      · exact .inr hz
    · trivial
  | .agg cs, v, hk, hr => by
    simp only [SV.pure, SV.ren, SV.R] at hr ⊢
    obtain ⟨vs, hv, hl, h1⟩ := hr
    exact ⟨vs, hv, SV.pureL_R hm hA hρ cs vs (by simpa [SV.lent] using hk) hl, h1⟩
  | .dead, _, _, _ => trivial
  | .int k n, v, _, e => e
  | .bool b, v, _, e => e
  | .str s, v, _, e => e
  | .ps e r xs, v, _, hr => by
    have hst : Stays w w (β.away Z) A' := ⟨Nat.le_refl _, fun b _ hb => ⟨rfl, fun h => hb ((hA b h).elim (fun h => .inl (freeze_owned h)) .inr)⟩⟩
    exact SV.ren_R hst hρ (.ps e r xs) v hr
  | .nils, v, _, e => e
  | .pe, v, _, e => e
  | .ptr k i fo, v, _, hr => by
    have hst : Stays w w (β.away Z) A' := ⟨Nat.le_refl _, fun b _ hb => ⟨rfl, fun h => hb ((hA b h).elim (fun h => .inl (freeze_owned h)) .inr)⟩⟩
    exact SV.ren_R hst hρ (.ptr k i fo) v hr
  | .pptr e r xs i fo, v, _, hr => by
    have hst : Stays w w (β.away Z) A' := ⟨Nat.le_refl _, fun b _ hb => ⟨rfl, fun h => hb ((hA b h).elim (fun h => .inl (freeze_owned h)) .inr)⟩⟩
    exact SV.ren_R hst hρ (.pptr e r xs i fo) v hr
  | .nilp, v, _, e => e
  | .tup cs, v, _, hr => by
    have hst : Stays w w (β.away Z) A' := ⟨Nat.le_refl _, fun b _ hb => ⟨rfl, fun h => hb ((hA b h).elim (fun h => .inl (freeze_owned h)) .inr)⟩⟩
    exact SV.ren_R hst hρ (.tup cs) v hr
  | .fn f cs, v, _, hr => by
    have hst : Stays w w (β.away Z) A' := ⟨Nat.le_refl _, fun b _ hb => ⟨rfl, fun h => hb ((hA b h).elim (fun h => .inl (freeze_owned h)) .inr)⟩⟩
    exact SV.ren_R hst hρ (.fn f cs) v hr
  | .bf f cs, v, _, hr => by
    have hst : Stays w w (β.away Z) A' := ⟨Nat.le_refl _, fun b _ hb => ⟨rfl, fun h => hb ((hA b h).elim (fun h => .inl (freeze_owned h)) .inr)⟩⟩
    exact SV.ren_R hst hρ (.bf f cs) v hr
  | .nilf, v, _, e => e
  | .nili, v, _, e => e
  | .nilm, v, _, e => e
  | .mp k, v, _, hr => by
    have hst : Stays w w (β.away Z) A' := ⟨Nat.le_refl _, fun b _ hb => ⟨rfl, fun h => hb ((hA b h).elim (fun h => .inl (freeze_owned h)) .inr)⟩⟩
    exact SV.ren_R hst hρ (.mp k) v hr
  | .bsl k n, v, _, hr => by
    have hst : Stays w w (β.away Z) A' := ⟨Nat.le_refl _, fun b _ hb => ⟨rfl, fun h => hb ((hA b h).elim (fun h => .inl (freeze_owned h)) .inr)⟩⟩
    exact SV.ren_R hst hρ (.bsl k n) v hr
theorem SV.pureL_R (hm : MR w Z β m) {lent : List Nat} {A' : Nat → Prop} (hA : ∀ b, A' b → (β.freezeL lent).away Z b) {β' : Loc} {ρ : Nat → Option Nat} (hρ : ∀ k l j, β k = some l → ρ k = some j → β' j = some l) :
    (l : List SV) → (vs : List Value) → (∀ k, k ∈ SV.lent.lentL m l → k ∈ lent) → SV.RL w (β.away Z) β l vs → SV.RL w A' β' (SV.ren.renL ρ (SV.pure.pureL m l)) vs
  | [], vs, _, e => e
  | x :: l, vs, hk, hr => by
    simp only [SV.pure.pureL, SV.ren.renL, SV.RL] at hr ⊢
    obtain ⟨v, vs', hv, hx, hl⟩ := hr
    exact ⟨v, vs', hv, SV.pure_R hm hA hρ x v (fun k h => hk k (by simp [SV.lent.lentL, h])) hx, SV.pureL_R hm hA hρ l vs' (fun k h => hk k (by simp [SV.lent.lentL, h])) hl⟩
end
end
end Go.Proofs.YtgakbdikappdbaaGreat.S2
set_option linter.unusedVariables false
set_option linter.unusedSimpArgs false
namespace Go.Proofs.YtgakbdikappdbaaGreat.S2
open Go
theorem get_mem {m : Mem} : ∀ {q : Nat} {o : Ob}, m.get q = some o → (q, o) ∈ m := by
  induction m with
  | nil => intro q o h; cases h
  | cons x m ih =>
    obtain ⟨k, o'⟩ := x
    intro q o h
    simp only [Mem.get] at h
    split at h
    · rename_i hq
      cases h
      subst hq
      exact List.mem_cons_self
    · exact List.mem_cons_of_mem _ (ih h)
theorem mem_names {m : Mem} {q : Nat} : q ∈ names m ↔ ∃ o, (q, o) ∈ m := by
  induction m with
  | nil => simp [names]
  | cons x m ih =>
    obtain ⟨k, o⟩ := x
    simp only [names, List.mem_cons, ih]
    constructor
    · rintro (rfl | ⟨o', h⟩)
      · exact ⟨o, .inl rfl⟩
      · exact ⟨o', .inr h⟩
    · rintro ⟨o', h | h⟩
      · cases h; exact .inl rfl
      · exact .inr ⟨o', h⟩
theorem get_of_mem {m : Mem} : ∀ {q : Nat} {o : Ob}, (names m).Nodup → (q, o) ∈ m → m.get q = some o := by
  induction m with
  | nil => intro q o _ h; cases h
  | cons x m ih =>
    obtain ⟨k, o'⟩ := x
    intro q o hn h
    simp only [names, List.nodup_cons] at hn
    simp only [Mem.get]
    rcases List.mem_cons.1 h with h | h
    · cases h; rw [if_pos rfl]
    · have hne : q ≠ k := fun e => hn.1 (mem_names.2 ⟨o, e ▸ h⟩)
      rw [if_neg hne]
      exact ih hn.2 h
theorem get_sets_mem : ∀ {l : List (Nat × Ob)} {m : Mem} {q : Nat} {o : Ob}, (names l).Nodup → (q, o) ∈ l → (m.sets l).get q = some o
  | [], m, q, o, _, h => by cases h
  | (k, o') :: l, m, q, o, hn, h => by
    simp only [names, List.nodup_cons] at hn
    simp only [Mem.sets]
    rcases List.mem_cons.1 h with h | h
    · cases h
      rw [Mem.get_sets l _ _ (fun o' ho' => hn.1 (mem_names.2 ⟨o', ho'⟩)), Mem.get_set, if_pos rfl]
    · exact get_sets_mem hn.2 h
theorem mem_back {ks : List Nat} {d : Nat} : ∀ {m : Mem} {q : Nat} {o : Ob}, (q, o) ∈ backMem ks d m ↔ ∃ j o0, (j, o0) ∈ m ∧ q = backName ks d j ∧ o = o0.ren fun q => some (backName ks d q)
  | [], q, o => by simp [backMem]
  | (j, o0) :: m, q, o => by
    simp only [backMem, List.mem_cons, mem_back]
    constructor
    · rintro (h | ⟨j', o', h1, h2, h3⟩)
      · cases h; exact ⟨j, o0, .inl rfl, rfl, rfl⟩
      · exact ⟨j', o', .inr h1, h2, h3⟩
    · rintro ⟨j', o', h | h, h2, h3⟩
      · cases h; exact .inl (by rw [h2, h3])
      · exact .inr ⟨j', o', h, h2, h3⟩
theorem back_inj {ks : List Nat} {d : Nat} : ∀ {m : Mem}, (names (backMem ks d m)).Nodup → ∀ {j j' : Nat} {o o' : Ob}, (j, o) ∈ m → (j', o') ∈ m → backName ks d j = backName ks d j' → j = j' ∧ o = o'
  | [], _, j, j', o, o', h, _, _ => by cases h
  | (i, x) :: m, hn, j, j', o, o', h, h', e => by
    simp only [backMem, names, List.nodup_cons] at hn
    rcases List.mem_cons.1 h with h | h <;> rcases List.mem_cons.1 h' with h' | h'
    · cases h; cases h'; exact ⟨rfl, rfl⟩
    · cases h
      exact absurd (mem_names.2 ⟨_, mem_back.2 ⟨j', o', h', e, rfl⟩⟩) hn.1
    · cases h'
      exact absurd (mem_names.2 ⟨_, mem_back.2 ⟨j, o, h, e.symm, rfl⟩⟩) hn.1
    · exact back_inj hn.2 h h' e
def backKey (ks : List Nat) (d : Nat) : Mem → Nat → Option Nat
  | [], _ => none
  | (j, _) :: l, q => if q = backName ks d j then some j else backKey ks d l q
theorem backKey_some {ks : List Nat} {d : Nat} : ∀ {m : Mem} {q j : Nat}, backKey ks d m q = some j → q = backName ks d j ∧ ∃ o, (j, o) ∈ m
  | [], q, j, h => by cases h
  | (i, x) :: m, q, j, h => by
    simp only [backKey] at h
    split at h
    · rename_i hq
      cases h
      exact ⟨hq, x, List.mem_cons_self⟩
    · obtain ⟨h1, o, h2⟩ := backKey_some h
      exact ⟨h1, o, List.mem_cons_of_mem _ h2⟩
theorem backKey_none {ks : List Nat} {d : Nat} : ∀ {m : Mem} {q : Nat}, backKey ks d m q = none ↔ q ∉ names (backMem ks d m)
  | [], q => by simp [backKey, backMem, names]
  | (i, x) :: m, q => by
    simp only [backKey, backMem, names, List.mem_cons, not_or]
    split
    · rename_i hq
      simp [hq]
    · rename_i hq
      rw [backKey_none]
      simp [hq]
theorem backKey_mem {ks : List Nat} {d : Nat} {m : Mem} (hn : (names (backMem ks d m)).Nodup) {j : Nat} {o : Ob} (h : (j, o) ∈ m) : backKey ks d m (backName ks d j) = some j := by
  cases hb : backKey ks d m (backName ks d j) with
  | none => exact absurd (mem_names.2 ⟨_, mem_back.2 ⟨j, o, h, rfl, rfl⟩⟩) (backKey_none.1 hb)
  | some i =>
    obtain ⟨h1, o', h2⟩ := backKey_some hb
    rw [(back_inj hn h h2 h1).1]
theorem backName_lt {ks : List Nat} {d j k : Nat} (h : ks[j]? = some k) : backName ks d j = k := by
  have := (List.getElem?_eq_some_iff.1 h).1
  simp only [backName, if_pos this, List.getD, h, Option.getD]
theorem nodup_get : ∀ {l : List Nat} {i j k : Nat}, l.Nodup → l[i]? = some k → l[j]? = some k → i = j
  | [], i, j, k, _, h, _ => by simp at h
  | x :: l, i, j, k, hn, h, h' => by
    rw [List.nodup_cons] at hn
    cases i with
    | zero =>
      cases j with
      | zero => rfl
      | succ j => simp at h h'; subst h; exact absurd (List.mem_of_getElem? h') hn.1
    | succ i =>
      cases j with
      | zero => simp at h h'; subst h'; exact absurd (List.mem_of_getElem? h) hn.1
      | succ j => exact congrArg Nat.succ (nodup_get (l := l) (k := k) hn.2 (by simpa using h) (by simpa using h'))
mutual
theorem lent_row {m : Mem} : (x : SV) → ∀ k, k ∈ x.lent m → ∃ e r xs, m.get k = some (.row e r xs)
  | .sl k off len, q, h => by
    simp only [SV.lent] at h
    split at h
    · rename_i e r xs hg
      simp only [List.mem_singleton] at h
      subst h
      exact ⟨e, r, xs, hg⟩
    · cases h
  | .slw k, q, h => by
    simp only [SV.lent] at h
    split at h
    · rename_i e r xs hg
      simp only [List.mem_singleton] at h
      subst h
      exact ⟨e, r, xs, hg⟩
    · cases h
  | .agg cs, q, h => lentL_row cs q (by simpa [SV.lent] using h)
  | .dead, _, h => by cases h
  | .int _ _, _, h => by cases h
  | .bool _, _, h => by cases h
  | .str _, _, h => by cases h
  | .ps _ _ _, _, h => by cases h
  | .nils, _, h => by cases h
  | .pe, _, h => by cases h
  | .ptr _ _ _, _, h => by cases h
  | .pptr _ _ _ _ _, _, h => by cases h
  | .nilp, _, h => by cases h
  | .tup _, _, h => by cases h
  | .fn _ _, _, h => by cases h
  | .bf _ _, _, h => by cases h
  | .nilf, _, h => by cases h
  | .nili, _, h => by cases h
  | .nilm, _, h => by cases h
  | .bsl _ _, _, h => by cases h
theorem lentL_row {m : Mem} : (l : List SV) → ∀ k, k ∈ SV.lent.lentL m l → ∃ e r xs, m.get k = some (.row e r xs)
  | [], q, h => by cases h
  | x :: l, q, h => by
    simp only [SV.lent.lentL, List.mem_append] at h
    exact h.elim (lent_row x q) (lentL_row l q)
end
theorem names_append : ∀ (m m' : Mem), names (m ++ m') = names m ++ names m'
  | [], _ => rfl
  | (k, o) :: m, m' => by simp [names, names_append m m']
theorem back_append {ks : List Nat} {d : Nat} : ∀ (m m' : Mem), backMem ks d (m ++ m') = backMem ks d m ++ backMem ks d m'
  | [], _ => rfl
  | (k, o) :: m, m' => by simp [backMem, back_append m m']
theorem back_nodup {ks : List Nat} {d : Nat} : ∀ {m : Mem}, (names (backMem ks d m)).Nodup → (names m).Nodup
  | [], _ => List.nodup_nil
  | (j, o) :: m, hh => by
    simp only [backMem, names, List.nodup_cons] at hh ⊢
    refine ⟨fun hj => hh.1 ?_, back_nodup hh.2⟩
    obtain ⟨o', ho'⟩ := mem_names.1 hj
    exact mem_names.2 ⟨_, mem_back.2 ⟨j, o', ho', rfl, rfl⟩⟩
theorem get_append {q : Nat} : ∀ (m m' : Mem), (m ++ m').get q = match m.get q with | some o => some o | none => m'.get q
  | [], _ => rfl
  | (k, o) :: m, m' => by
    simp only [List.cons_append, Mem.get]
    split
    · rfl
    · exact get_append m m'
theorem get_filter {q : Nat} (p : Nat → Bool) : ∀ (m : Mem), Mem.get (m.filter fun x => p x.1) q = if p q = true then m.get q else none
  | [] => by simp [Mem.get]
  | (k, o) :: m => by
    simp only [List.filter_cons]
    by_cases hk : p k = true
    · rw [if_pos hk]
      simp only [Mem.get]
      by_cases hq : q = k
      · subst hq; rw [if_pos rfl, if_pos rfl, if_pos hk]
      · rw [if_neg hq, if_neg hq]; exact get_filter p m
    · rw [if_neg hk, get_filter p m]
      simp only [Mem.get]
      by_cases hq : q = k
      · subst hq; rw [if_neg hk, if_neg hk]
      · rw [if_neg hq]
theorem fill_get {s m : Mem} (hn : (names m).Nodup) (q : Nat) : (fillMem s m).get q = (s.sets m).get q := by
  unfold fillMem
  rw [get_append, get_filter fun k => !(names m).contains k]
  by_cases hq : q ∈ names m
  · obtain ⟨o, ho⟩ := mem_names.1 hq
    rw [if_neg (by simpa using hq), get_sets_mem hn ho]
    exact get_of_mem hn ho
  · rw [if_pos (by simpa using hq), Mem.get_sets _ _ _ fun o ho => hq (mem_names.2 ⟨o, ho⟩)]
    cases hs : s.get q with
    | some o => rfl
    | none =>
      cases hg : m.get q with
      | none => rfl
      | some o => exact (hq (mem_names.2 ⟨o, get_mem hg⟩)).elim
theorem fill_names {s m : Mem} {j : Nat} {o : Ob} (h : (j, o) ∈ s) : ∃ o', (j, o') ∈ fillMem s m := by
  unfold fillMem
  by_cases hj : j ∈ names m
  · obtain ⟨o', ho'⟩ := mem_names.1 hj
    exact ⟨o', List.mem_append_right _ ho'⟩
  · exact ⟨o, List.mem_append_left _ (List.mem_filter.2 ⟨h, by simpa using hj⟩)⟩
theorem subMem_ge {m : Mem} {ρ : Nat → Option Nat} : ∀ {ks : List Nat} {i j : Nat} {o : Ob}, (j, o) ∈ subMem m ρ ks i → i ≤ j
  | [], i, j, o, h => by cases h
  | k :: ks, i, j, o, h => by
    simp only [subMem] at h
    split at h
    · rcases List.mem_cons.1 h with h | h
      · cases h; exact Nat.le_refl _
      · exact Nat.le_of_succ_le (subMem_ge h)
    · exact Nat.le_of_succ_le (subMem_ge h)
theorem subMem_names {m : Mem} {ρ : Nat → Option Nat} : ∀ {ks : List Nat} {i j : Nat} {o : Ob}, (j, o) ∈ subMem m ρ ks i → ∃ k, ks[j - i]? = some k
  | [], i, j, o, h => by cases h
  | k :: ks, i, j, o, h => by
    simp only [subMem] at h
    have hgo : (j, o) ∈ subMem m ρ ks (i + 1) → ∃ k', (k :: ks)[j - i]? = some k' := by
      intro h
      have hle := subMem_ge h
      obtain ⟨k', hk'⟩ := subMem_names h
      exact ⟨k', by rw [show j - i = (j - (i + 1)) + 1 by omega]; simpa using hk'⟩
    split at h
    · rcases List.mem_cons.1 h with h | h
      · cases h; exact ⟨k, by simp⟩
      · exact hgo h
    · exact hgo h
mutual
theorem SV.ren_back {ρ σ : Nat → Option Nat} : (x : SV) → (∀ k, k ∈ x.refs → (ρ k).bind σ = some k) → (x.ren ρ).ren σ = x
  | .sl k off len, h => by
    have := h k (by simp [SV.refs])
    cases hr : ρ k with
    | none => rw [hr] at this; cases this
    | some j => rw [hr] at this; simp only [Option.bind_some] at this; simp only [SV.ren, hr, this]
  | .slw k, h => by
    have := h k (by simp [SV.refs])
    cases hr : ρ k with
    | none => rw [hr] at this; cases this
    | some j => rw [hr] at this; simp only [Option.bind_some] at this; simp only [SV.ren, hr, this]
  | .ptr k i fo, h => by
    have := h k (by simp [SV.refs])
    cases hr : ρ k with
    | none => rw [hr] at this; cases this
    | some j => rw [hr] at this; simp only [Option.bind_some] at this; simp only [SV.ren, hr, this]
  | .bsl k n, h => by
    have := h k (by simp [SV.refs])
    cases hr : ρ k with
    | none => rw [hr] at this; cases this
    | some j => rw [hr] at this; simp only [Option.bind_some] at this; simp only [SV.ren, hr, this]
  | .mp k, h => by
    have := h k (by simp [SV.refs])
    cases hr : ρ k with
    | none => rw [hr] at this; cases this
    | some j => rw [hr] at this; simp only [Option.bind_some] at this; simp only [SV.ren, hr, this]
  | .agg cs, h => by simp only [SV.ren]; rw [SV.renL_back cs (by simpa [SV.refs] using h)]
  | .tup cs, h => by simp only [SV.ren]; rw [SV.renL_back cs (by simpa [SV.refs] using h)]
  | .fn f cs, h => by simp only [SV.ren]; rw [SV.renL_back cs (by simpa [SV.refs] using h)]
  | .bf f cs, h => by simp only [SV.ren]; rw [SV.renL_back cs (by simpa [SV.refs] using h)]
  | .dead, _ => rfl
  | .int _ _, _ => rfl
  | .bool _, _ => rfl
  | .str _, _ => rfl
  | .ps _ _ _, _ => rfl
  | .nils, _ => rfl
  | .pe, _ => rfl
  | .pptr _ _ _ _ _, _ => rfl
  | .nilp, _ => rfl
  | .nilf, _ => rfl
  | .nili, _ => rfl
  | .nilm, _ => rfl
theorem SV.renL_back {ρ σ : Nat → Option Nat} : (l : List SV) → (∀ k, k ∈ SV.refs.refsL l → (ρ k).bind σ = some k) → SV.ren.renL σ (SV.ren.renL ρ l) = l
  | [], _ => rfl
  | x :: l, h => by
    simp only [SV.ren.renL]
    rw [SV.ren_back x fun k hk => h k (by simp [SV.refs.refsL, hk]), SV.renL_back l fun k hk => h k (by simp [SV.refs.refsL, hk])]
end
theorem Ob.ren_back {ρ σ : Nat → Option Nat} (o : Ob) (h : ∀ k, k ∈ o.refs → (ρ k).bind σ = some k) : (o.ren ρ).ren σ = o := by
  cases o with
  | cells cs => simp only [Ob.ren]; rw [SV.renL_back cs (by simpa [Ob.refs] using h)]
  | tcells t cs => simp only [Ob.ren]; rw [SV.renL_back cs (by simpa [Ob.refs] using h)]
  | row => rfl
  | froz => rfl
  | map => rfl
  | gone => rfl
theorem posIn_mem' : ∀ {ks : List Nat} {i k : Nat}, k ∈ ks → ∃ j, posIn ks i k = some j
  | [], _, _, h => by cases h
  | q :: ks, i, k, h => by
    simp only [posIn]
    split
    · exact ⟨i, rfl⟩
    · rename_i hne
      rcases List.mem_cons.1 h with rfl | h
      · exact (hne rfl).elim
      · exact posIn_mem' h
theorem freeze_names {m : Mem} {q : Nat} {o : Ob} : ∀ {l : List Nat}, (q, o) ∈ freeze m l → q ∈ l
  | [], h => by cases h
  | k :: l, h => by
    simp only [freeze] at h
    split at h
    · rcases List.mem_cons.1 h with h | h
      · cases h; exact List.mem_cons_self
      · exact List.mem_cons_of_mem _ (freeze_names h)
    · exact List.mem_cons_of_mem _ (freeze_names h)
theorem subMem_nodup {m : Mem} {ρ : Nat → Option Nat} : ∀ (ks : List Nat) (i : Nat), (names (subMem m ρ ks i)).Nodup
  | [], i => List.nodup_nil
  | k :: ks, i => by
    simp only [subMem]
    split
    · refine List.nodup_cons.2 ⟨fun h => ?_, subMem_nodup ks (i + 1)⟩
      obtain ⟨o, ho⟩ := mem_names.1 h
      have := subMem_ge ho
      omega
    · exact subMem_nodup ks (i + 1)
theorem back_fill {m m' mF : Mem} {ks lent : List Nat} {d q : Nat} {ice : Bool} (hclosed : closedIn m ks = true) (hdis : ∀ k, k ∈ lent → k ∉ ks)
    (hget : ∀ j, (subMem m (posIn ks 0) ks 0).get j = match ks[j]? with | some k => (m.get k).map (Ob.ren (posIn ks 0)) | none => none)
    (hmF : mF = fillMem (subMem m (posIn ks 0) ks 0) m') (hnb : (names (backMem ks d mF)).Nodup) :
    (m.sets ((if ice then freeze m lent else []) ++ backMem ks d mF)).get q = (m.sets ((if ice then freeze m lent else []) ++ backMem ks d m')).get q := by
  rw [Mem.sets_append, Mem.sets_append]
  have hsplit : backMem ks d mF = backMem ks d ((subMem m (posIn ks 0) ks 0).filter fun x => !(names m').contains x.1) ++ backMem ks d m' := by rw [hmF, fillMem, back_append]
  rw [hsplit] at hnb
  rw [hsplit, Mem.sets_append]
  rw [names_append] at hnb
  have hnb2 := (List.nodup_append.1 hnb).2.1
  have hnb1 := (List.nodup_append.1 hnb).1
  by_cases hq : q ∈ names (backMem ks d m')
  · obtain ⟨o, ho⟩ := mem_names.1 hq
    rw [get_sets_mem hnb2 ho, get_sets_mem hnb2 ho]
  · have hq' : ∀ o, (q, o) ∉ backMem ks d m' := fun o ho => hq (mem_names.2 ⟨o, ho⟩)
    rw [Mem.get_sets _ _ _ hq', Mem.get_sets _ _ _ hq']
    by_cases hq1 : q ∈ names (backMem ks d ((subMem m (posIn ks 0) ks 0).filter fun x => !(names m').contains x.1))
    · obtain ⟨o, ho⟩ := mem_names.1 hq1
      rw [get_sets_mem hnb1 ho]
      obtain ⟨j, o0, hj, rfl, rfl⟩ := mem_back.1 ho
      have hj' := (List.mem_filter.1 hj).1
      obtain ⟨k, hk⟩ := subMem_names hj'
      rw [Nat.sub_zero] at hk
      rw [backName_lt hk]
      have hkm := List.mem_of_getElem? hk
      have hkl : k ∉ lent := fun h => hdis k h hkm
      obtain ⟨o1, ho1⟩ : ∃ o, m.get k = some o := by
        have := List.all_eq_true.1 hclosed k hkm
        cases hg : m.get k with
        | none => rw [hg] at this; cases this
        | some o => exact ⟨o, rfl⟩
      have hfr : (m.sets (if ice then freeze m lent else [])).get k = m.get k := by
        cases ice with
        | false => rfl
        | true =>
          refine Mem.get_sets _ _ _ fun o ho => ?_
          exact hkl (freeze_names ho)
      rw [hfr, ho1]
      have hsn : (names (subMem m (posIn ks 0) ks 0)).Nodup := subMem_nodup ks 0
      have e1 := get_of_mem hsn hj'
      rw [hget, hk] at e1
      dsimp only at e1
      rw [ho1] at e1
      simp only [Option.map_some, Option.some.injEq] at e1
      rw [← e1]
      congr 1
      refine Ob.ren_back o1 fun k2 hk2 => ?_
      have h2 : k2 ∈ ks := by
        have := List.all_eq_true.1 hclosed k hkm
        rw [ho1] at this
        have := List.all_eq_true.1 this k2 hk2
        simpa using this
      obtain ⟨j2, hj2⟩ := posIn_mem' (i := 0) h2
      obtain ⟨_, h3⟩ := posIn_some hj2
      rw [Nat.sub_zero] at h3
      rw [hj2]
      simp only [Option.bind_some]
      rw [backName_lt h3]
    · rw [Mem.get_sets _ _ _ fun o ho => hq1 (mem_names.2 ⟨o, ho⟩)]
structure CB.CallsOK (P : Program) (cb : CB) : Prop where
  call : ∀ {f : FuncId} {args : List SV} {m : Mem} {v : SV} {m' : Mem}, cb.call f args m (fun v m' => some (v, m')) = some (v, m') → CallOK P f args m v m'
section
variable {P : Program} {w : World} {Z : Nat → Prop} {β : Loc} {m : Mem}
theorem LK.own_frz {l : LK} {b : Nat} (h : l.frz.own = some b) : l.own = some b ∧ l.frz = l := by
  cases l <;> first | exact ⟨h, rfl⟩ | cases h
theorem lentSome_row {m : Mem} (ps : Nat → Bool) : ∀ (l : List SV) (i : Nat) (k : Nat), k ∈ lentSome m ps i l → ∃ e r xs, m.get k = some (.row e r xs)
  | [], i, k, h => by cases h
  | x :: l, i, k, h => by
    simp only [lentSome, List.mem_append] at h
    rcases h with h | h
    · cases hp : ps i with
      | true =>
        rw [hp] at h
        exact lentL_row [x] k (by simpa [SV.lent.lentL] using h)
      | false => rw [hp] at h; cases h
    · exact lentSome_row ps l (i + 1) k h
theorem pureSome_R {m : Mem} {w : World} {Z : Nat → Prop} {β : Loc} (hm : MR w Z β m) {lent : List Nat} {A' : Nat → Prop} (hst : Stays w w (β.away Z) A') (hA : ∀ b, A' b → (β.freezeL lent).away Z b) {β' : Loc} {ρ : Nat → Option Nat} (hρ : ∀ k l j, β k = some l → ρ k = some j → β' j = some l) (ps : Nat → Bool) :
    ∀ (l : List SV) (i : Nat) (vs : List Value), (∀ k, k ∈ lentSome m ps i l → k ∈ lent) → SV.RL w (β.away Z) β l vs → SV.RL w A' β' (SV.ren.renL ρ (pureSome m ps i l)) vs
  | [], i, vs, _, e => e
  | x :: l, i, vs, hk, hr => by
    simp only [pureSome, SV.ren.renL, SV.RL] at hr ⊢
    obtain ⟨v, vs', hv, hx, hl⟩ := hr
    refine ⟨v, vs', hv, ?_, pureSome_R hm hst hA hρ ps l (i + 1) vs' (fun k h => hk k (by simp [lentSome, h])) hl⟩
    cases hp : ps i with
    | true => exact SV.pure_R hm hA hρ x v (fun k h => hk k (by simp [lentSome, hp, h])) hx
    | false => exact SV.ren_R hst hρ x v hx
theorem callx_sound {cb : CB} (hn : cb.Nat) (hcb : cb.CallsOK P) {byRef : FuncId → CC} {d : Nat} {f : FuncId} {args : List SV} {vs : List Value} {e : Eff} (hm : MR w Z β m)
    (h : callx cb byRef d f args m some = some e) (hx : SV.RL w (β.away Z) β args vs) : CallRun P f vs.toArray w (PostE Z w β m e) := by
  unfold callx callWith at h
  obtain ⟨as, has⟩ : ∃ as, as = callArgs byRef f args m := ⟨_, rfl⟩
  obtain ⟨lent, hlent⟩ : ∃ l, l = callLent byRef f args m := ⟨_, rfl⟩
  obtain ⟨ks, hks⟩ : ∃ l, l = callKeys as m := ⟨_, rfl⟩
  rw [← has, ← hlent, ← hks] at h
  split at h
  · rename_i hc
    simp only [Bool.and_eq_true] at hc
    obtain ⟨⟨hclosed, hdisj⟩, hdist⟩ := hc
    have hdis : ∀ k, k ∈ lent → k ∉ ks := by
      intro k hk hk'
      have := List.all_eq_true.1 hdisj k hk
      simp [hk'] at this
    have hnd : ks.Nodup := distinct_nodup hdist
    rw [hn.call] at h
    obtain ⟨⟨v, m'⟩, hcall, hback⟩ := Option.bind_eq_some_iff.1 h
    have hok := hcb.call hcall
    have hback : callBack d args lent ks m v m' = some e := by
      revert hback
      dsimp only
      cases callBack d args lent ks m v m' <;> simp
    have hget : ∀ j, (subMem m (posIn ks 0) ks 0).get j = match ks[j]? with | some k => (m.get k).map (Ob.ren (posIn ks 0)) | none => none := by
      intro j
      rw [get_subMem, if_pos (Nat.zero_le _), Nat.sub_zero]
      all_goals (cases ks[j]? <;> rfl)
    obtain ⟨βc, hβc⟩ : ∃ βc : Loc, βc = fun j => match ks[j]? with | some k => β k | none => none := ⟨_, rfl⟩
    obtain ⟨Z', hZ'⟩ : ∃ Z' : Nat → Prop, Z' = fun b => Z b ∨ ∃ k l, k ∉ ks ∧ k ∉ lent ∧ β k = some l ∧ l.own = some b := ⟨_, rfl⟩
    have hβj : ∀ j k, ks[j]? = some k → βc j = β k := by intro j k hk; rw [hβc]; simp only [hk]
    have hβs : ∀ j l, βc j = some l → ∃ k, ks[j]? = some k ∧ β k = some l := by
      intro j l hl
      rw [hβc] at hl
      dsimp only at hl
      split at hl
      · rename_i k hk; exact ⟨k, hk, hl⟩
      · cases hl
    have hown : ∀ b, βc.owned b → ∃ k l, k ∈ ks ∧ β k = some l ∧ l.own = some b := by
      rintro b ⟨j, l, hl, hb⟩
      obtain ⟨k, hk, hl'⟩ := hβs j l hl
      exact ⟨k, l, List.mem_of_getElem? hk, hl', hb⟩
    have hρ : ∀ k l j, β k = some l → posIn ks 0 k = some j → βc j = some l := by
      intro k l j hl hj
      obtain ⟨_, h2⟩ := posIn_some hj
      rw [Nat.sub_zero] at h2
      rw [hβj j k h2, hl]
    have hrow : ∀ k, k ∈ lent → ∃ e r xs, m.get k = some (.row e r xs) := by
      intro k hk
      rw [hlent] at hk
      unfold callLent at hk
      exact lentSome_row _ args 0 k hk
    have hst : Stays w w (β.away Z) (βc.away Z') := ⟨Nat.le_refl _, fun b _ hb => ⟨rfl, fun h' => hb (by
      rcases h' with h' | h'
      · obtain ⟨k, l, _, h1, h2⟩ := hown b h'
        exact .inl ⟨k, l, h1, h2⟩
      · rw [hZ'] at h'
        rcases h' with h' | ⟨k, l, _, _, h1, h2⟩
        · exact .inr h'
        · exact .inl ⟨k, l, h1, h2⟩)⟩⟩
    have hsub : MR w Z' βc (subMem m (posIn ks 0) ks 0) := by
      refine ⟨fun j o ho => ?_, fun j l hl => ?_, fun j j' l l' b hl hl' hb hb' => ?_, fun b hb hz => ?_, fun b hz => ?_⟩
      · rw [hget] at ho
        split at ho
        · rename_i k hk
          obtain ⟨o0, ho0, rfl⟩ := Option.map_eq_some_iff.1 ho
          obtain ⟨l, hl, hob⟩ := hm.obs k o0 ho0
          exact ⟨l, by rw [hβj j k hk, hl], hob.ren hst hρ⟩
        · cases ho
      · obtain ⟨k, hk, hl'⟩ := hβs j l hl
        obtain ⟨o, ho⟩ := hm.dom k l hl'
        exact ⟨o.ren (posIn ks 0), by rw [hget, hk]; simp [ho]⟩
      · obtain ⟨k, hk, h1⟩ := hβs j l hl
        obtain ⟨k', hk', h2⟩ := hβs j' l' hl'
        have hkk := hm.inj k k' l l' b h1 h2 hb hb'
        subst hkk
        obtain ⟨hj, hj1⟩ := List.getElem?_eq_some_iff.1 hk
        obtain ⟨hj', hj1'⟩ := List.getElem?_eq_some_iff.1 hk'
        exact nodup_get hnd hk hk'
      · obtain ⟨k, l, hk, h1, h2⟩ := hown b hb
        rw [hZ'] at hz
        rcases hz with hz | ⟨k', l', hk', _, h1', h2'⟩
        · exact hm.apart b ⟨k, l, h1, h2⟩ hz
        · exact hk' (hm.inj k k' l l' b h1 h1' h2 h2' ▸ hk)
      · rw [hZ'] at hz
        rcases hz with hz | ⟨k', l', hk', _, h1', h2'⟩
        · exact hm.old b hz
        · exact hm.lt ⟨k', l', h1', h2'⟩
    have hargs : SV.RL w (βc.away Z') βc (SV.ren.renL (posIn ks 0) as) vs := by
      rw [has]
      unfold callArgs
      · refine pureSome_R hm (lent := lent) hst (fun b hb => ?_) hρ _ args 0 vs (fun k hk => by rw [hlent]; unfold callLent; exact hk) hx
        rcases hb with hb | hb
        · obtain ⟨k, l, hk, h1, h2⟩ := hown b hb
          refine .inl ⟨k, l, ?_, h2⟩
          simp only [Loc.freezeL]
          rw [if_neg (fun hl => hdis k hl hk)]
          exact h1
        · rw [hZ'] at hb
          rcases hb with hb | ⟨k, l, hk, hkl, h1, h2⟩
          · exact .inr hb
          · refine .inl ⟨k, l, ?_, h2⟩
            simp only [Loc.freezeL]
            rw [if_neg hkl]
            exact h1
    refine (hok w Z' βc vs hsub hargs).mono ?_
    rintro u w' ⟨βc', hstep, hm', hv⟩
    obtain ⟨mF, hmF⟩ : ∃ mF, mF = fillMem (subMem m (posIn ks 0) ks 0) m' := ⟨_, rfl⟩
    have hndF : (names m').Nodup → ∀ q, mF.get q = ((subMem m (posIn ks 0) ks 0).sets m').get q := by
      intro hn q
      rw [hmF]
      exact fill_get hn q
    unfold callBack at hback
    split at hback
    · rename_i hbc
      cases hback
      simp only [Bool.and_eq_true] at hbc
      obtain ⟨hnb, hfresh⟩ := hbc
      rw [← hmF] at hnb ⊢
      have hnb := distinct_nodup hnb
      have hmF' : MR w' Z' βc' mF := by
        have hn' : (names m').Nodup := back_nodup (d := d) (ks := ks) (m := m') (by
          rw [hmF, fillMem, back_append, names_append] at hnb
          exact (List.nodup_append.1 hnb).2.1)
        have e := hndF hn'
        exact ⟨fun k o ho => hm'.obs k o (e k ▸ ho), fun k l hl => by rw [e]; exact hm'.dom k l hl, hm'.inj, hm'.apart, hm'.old⟩
      have hsubs : ∀ k, k ∈ ks → k ∈ names (backMem ks d mF) := by
        intro k hk
        obtain ⟨j, hj⟩ := List.getElem?_of_mem hk
        obtain ⟨o, ho⟩ : ∃ o, m.get k = some o := by
          have := List.all_eq_true.1 hclosed k hk
          cases hg : m.get k with
          | none => rw [hg] at this; cases this
          | some o => exact ⟨o, rfl⟩
        have hgj : (subMem m (posIn ks 0) ks 0).get j = some (o.ren (posIn ks 0)) := by rw [hget, hj]; simp [ho]
        obtain ⟨o', ho'⟩ := fill_names (m := m') (get_mem hgj)
        refine mem_names.2 ⟨_, mem_back.2 ⟨j, o', by rw [hmF]; exact ho', (backName_lt hj).symm, rfl⟩⟩
      have hfresh : ∀ k, k ∈ names (backMem ks d mF) → k ∉ ks → m.get k = none := by
        intro k hk hk'
        obtain ⟨o, ho⟩ := mem_names.1 hk
        obtain ⟨j, o0, hj, rfl, rfl⟩ := mem_back.1 ho
        rw [hmF] at hj
        rcases List.mem_append.1 hj with hj | hj
        · obtain ⟨k2, hk2⟩ := subMem_names (List.mem_filter.1 hj).1
          rw [Nat.sub_zero] at hk2
          exact (hk' (by rw [backName_lt hk2]; exact List.mem_of_getElem? hk2)).elim
        · have := List.all_eq_true.1 hfresh _ (List.mem_filter.2 ⟨mem_names.2 ⟨_, mem_back.2 ⟨j, o0, hj, rfl, rfl⟩⟩, by simpa using hk'⟩)
          simpa using this
      obtain ⟨ice, hice⟩ : ∃ b, b = (v.hasPs || mF.any fun x => x.2.hasPs) := ⟨_, rfl⟩
      rw [← hice]
      suffices hsuf : PostE Z w β m ⟨v.ren fun q => some (backName ks d q), (if ice then freeze m lent else []) ++ backMem ks d mF, []⟩ u w' by
        obtain ⟨β', a1, a2, a3⟩ := hsuf
        refine ⟨β', a1, ⟨fun k o ho => a2.obs k o ?_, fun k l hl => ?_, a2.inj, a2.apart, a2.old⟩, a3⟩
        · rw [back_fill hclosed hdis hget hmF hnb]; exact ho
        · obtain ⟨o, ho⟩ := a2.dom k l hl
          exact ⟨o, by rw [← back_fill hclosed hdis hget hmF hnb]; exact ho⟩
      obtain ⟨β1, hβ1⟩ : ∃ β1 : Loc, β1 = if ice then β.freezeL lent else β := ⟨_, rfl⟩
      have hm1 : MR w Z β1 (m.sets (if ice then freeze m lent else [])) := by
        rw [hβ1]
        cases ice
        · exact hm
        · exact freeze_MR hm lent
      have hs1 : Step w w β β1 := by
        rw [hβ1]
        cases ice
        · exact Step.refl w β
        · exact freeze_step lent
      have hβ1s : ∀ k, k ∉ lent → β1 k = β k := by
        intro k hk
        rw [hβ1]
        cases ice
        · rfl
        · simp [Loc.freezeL, hk]
      have hβ1o : ∀ k l b, β1 k = some l → l.own = some b → β k = some l := by
        intro k l b hl hb
        rw [hβ1] at hl
        cases ice
        · exact hl
        · simp only [if_true, Loc.freezeL] at hl
          split at hl
          · obtain ⟨l0, h0, rfl⟩ := Option.map_eq_some_iff.1 hl
            rw [(LK.own_frz hb).2]
            exact h0
          · exact hl
      have hice0 : ice = true → ∀ k l b, k ∈ lent → β1 k = some l → l.own = some b → False := by
        intro hi k l b hk hl hb
        rw [hβ1, hi] at hl
        simp only [if_true, Loc.freezeL, if_pos hk] at hl
        obtain ⟨l0, h0, rfl⟩ := Option.map_eq_some_iff.1 hl
        obtain ⟨e, r, xs, hg⟩ := hrow k hk
        obtain ⟨l1, h1, hob⟩ := hm.obs k _ hg
        rw [h0] at h1
        cases h1
        cases l0 with
        | row => cases hb
        | _ => exact hob.elim
      obtain ⟨β', hβ'⟩ : ∃ β' : Loc, β' = fun q => match backKey ks d mF q with | some j => βc' j | none => β1 q := ⟨_, rfl⟩
      have hb'in : ∀ j o, (j, o) ∈ mF → β' (backName ks d j) = βc' j := by
        intro j o hj
        rw [hβ']
        simp only [backKey_mem hnb hj]
      have hb'out : ∀ q, q ∉ names (backMem ks d mF) → β' q = β1 q := by
        intro q hq
        rw [hβ']
        simp only [backKey_none.2 hq]
      have hb'cases : ∀ q l, β' q = some l → (∃ j o, (j, o) ∈ mF ∧ q = backName ks d j ∧ βc' j = some l) ∨ (q ∉ names (backMem ks d mF) ∧ β1 q = some l) := by
        intro q l hl
        rw [hβ'] at hl
        dsimp only at hl
        split at hl
        · rename_i j hj
          obtain ⟨h1, o, h2⟩ := backKey_some hj
          exact .inl ⟨j, o, h2, h1, hl⟩
        · rename_i hj
          exact .inr ⟨backKey_none.1 hj, hl⟩
      have hdom' : ∀ j l, βc' j = some l → ∃ o, (j, o) ∈ mF := by
        intro j l hl
        obtain ⟨o, ho⟩ := hmF'.dom j l hl
        exact ⟨o, get_mem ho⟩
      have hρ' : ∀ k l j, βc' k = some l → (fun q => some (backName ks d q)) k = some j → β' j = some l := by
        intro k l j hl hj
        cases hj
        obtain ⟨o, ho⟩ := hdom' k l hl
        rw [hb'in k o ho, hl]
      -- what the frame owns and did not hand over stands apart
      have hkept : ∀ q l b, q ∉ ks → β1 q = some l → l.own = some b → q ∉ lent → Z' b := by
        intro q l b hq hl hb hql
        rw [hZ']
        exact .inr ⟨q, l, hq, hql, hβ1o q l b hl hb, hb⟩
      have hs2 : Step w w' β1 β' := by
        refine ⟨hstep.os, hstep.tape, hstep.output, hstep.size, fun b hb ho => hstep.block b hb fun hc => ?_, fun b hb => ?_, fun q l hl => ?_⟩
        · obtain ⟨k, l, hk, h1, h2⟩ := hown b hc
          exact ho ⟨k, l, by rw [hβ1s k (fun hl => hdis k hl hk)]; exact h1, h2⟩
        · obtain ⟨q, l, hl, hb⟩ := hb
          rcases hb'cases q l hl with ⟨j, o, hj, rfl, hl'⟩ | ⟨hq, hl'⟩
          · rcases hstep.own b ⟨j, l, hl', hb⟩ with hc | hc
            · obtain ⟨k, l, hk, h1, h2⟩ := hown b hc
              exact .inl ⟨k, l, by rw [hβ1s k (fun hl => hdis k hl hk)]; exact h1, h2⟩
            · exact .inr hc
          · exact .inl ⟨q, l, hl', hb⟩
        · by_cases hq : q ∈ names (backMem ks d mF)
          · by_cases hqk : q ∈ ks
            · obtain ⟨j, hj⟩ := List.getElem?_of_mem hqk
              have hlq : β q = some l := by rw [← hβ1s q (fun hl => hdis q hl hqk)]; exact hl
              obtain ⟨l', hl', hle⟩ := hstep.le j l (by rw [hβj j q hj]; exact hlq)
              obtain ⟨o, ho⟩ := hdom' j l' hl'
              refine ⟨l', ?_, hle⟩
              rw [← backName_lt (d := d) hj, hb'in j o ho]
              exact hl'
            · have h0 := hm.none (hfresh q hq hqk)
              exfalso
              have hql : q ∉ lent := by
                intro hql
                obtain ⟨e, r, xs, hg⟩ := hrow q hql
                rw [hfresh q hq hqk] at hg
                cases hg
              rw [hβ1s q hql, h0] at hl
              cases hl
          · exact ⟨l, by rw [hb'out q hq]; exact hl, .refl l⟩
      have hobs' : ∀ j o l, (j, o) ∈ mF → mF.get j = some o → βc' j = some l → ObR w' (β'.away Z) β' l (o.ren fun q => some (backName ks d q)) := by
        intro j o l hj hg hl
        obtain ⟨l', hl', hob⟩ := hmF'.obs j o hg
        rw [hl] at hl'
        cases hl'
        cases hib : ice with
        | false =>
          rw [hib] at hice
          have := (Bool.or_eq_false_iff.1 hice.symm).2
          rw [List.any_eq_false] at this
          exact hob.ren' hρ' (by simpa using this _ hj)
        | true =>
          refine hob.ren ⟨Nat.le_refl _, fun b _ hb => ⟨rfl, ?_⟩⟩ hρ'
          rintro (⟨q, l1, hq, ho⟩ | hz)
          · rcases hb'cases q l1 hq with ⟨j', o', hj', rfl, hl1⟩ | ⟨hqn, hl1⟩
            · exact hb (.inl ⟨j', l1, hl1, ho⟩)
            · exact hb (.inr (hkept q l1 b (fun hqk => hqn (hsubs q hqk)) hl1 ho fun hql => hice0 hib q l1 b hql hl1 ho))
          · exact hb (.inr (by rw [hZ']; exact .inl hz))
      have hmn : (names mF).Nodup := by
        have aux : ∀ {m'' : Mem}, (names (backMem ks d m'')).Nodup → (names m'').Nodup := by
          intro m''
          induction m'' with
          | nil => intro _; exact List.nodup_nil
          | cons x m'' ih =>
            obtain ⟨j, o⟩ := x
            intro hh
            simp only [backMem, names, List.nodup_cons] at hh ⊢
            refine ⟨fun hj => hh.1 ?_, ih hh.2⟩
            obtain ⟨o', ho'⟩ := mem_names.1 hj
            exact mem_names.2 ⟨_, mem_back.2 ⟨j, o', ho', rfl, rfl⟩⟩
        exact aux hnb
      refine ⟨β', hs1.trans hs2, ?_, ?_⟩
      · dsimp only
        rw [Mem.sets_append]
        refine hm1.update (fun q => q ∈ names (backMem ks d mF)) hs2 (fun q hq => ⟨hb'out q hq, Mem.get_sets _ _ _ fun o ho => hq (mem_names.2 ⟨o, ho⟩)⟩) (fun q l b hq hl hb => ?_) (fun q o hq hg => ?_) (fun q l hq hl => ?_) (fun q l b hq hl hb => ?_)
        · refine hstep.block b (hm.lt ⟨q, l, hβ1o q l b hl hb, hb⟩) fun hc => ?_
          obtain ⟨k, l', hk, h1, h2⟩ := hown b hc
          exact hq (hm.inj k q l' l b h1 (hβ1o q l b hl hb) h2 hb ▸ hsubs k hk)
        · obtain ⟨o', ho'⟩ := mem_names.1 hq
          rw [get_sets_mem hnb ho'] at hg
          cases hg
          obtain ⟨j, o0, hj, rfl, rfl⟩ := mem_back.1 ho'
          have hgj := get_of_mem hmn hj
          obtain ⟨l, hl, _⟩ := hmF'.obs j o0 hgj
          exact ⟨l, by rw [hb'in j o0 hj, hl], hobs' j o0 l hj hgj hl⟩
        · obtain ⟨o', ho'⟩ := mem_names.1 hq
          exact ⟨o', get_sets_mem hnb ho'⟩
        · rcases hb'cases q l hl with ⟨j, o, hj, rfl, hl'⟩ | ⟨hqn, _⟩
          · have hz := hmF'.apart b ⟨j, l, hl', hb⟩
            refine ⟨fun h0 => hz (by rw [hZ']; exact .inl h0), fun k' l' hk' hb' => ?_⟩
            rcases hb'cases k' l' hk' with ⟨j', o', hj', rfl, hl2⟩ | ⟨hqn, hl2⟩
            · rw [hmF'.inj j' j l' l b hl2 hl' hb' hb]
            · exfalso
              by_cases hkl : k' ∈ lent
              · -- a lent row is not handed over
                cases hib : ice with
                | true => exact hice0 hib k' l' b hkl hl2 hb'
                | false =>
                  rcases hstep.own b ⟨j, l, hl', hb⟩ with hc | hc
                  · obtain ⟨k, l3, hk, h1, h2⟩ := hown b hc
                    exact hdis k' hkl (hm.inj k k' l3 l' b h1 (hβ1o k' l' b hl2 hb') h2 hb' ▸ hk)
                  · have := hm.lt ⟨k', l', hβ1o k' l' b hl2 hb', hb'⟩
                    omega
              · exact hz (hkept k' l' b (fun hqk => hqn (hsubs k' hqk)) hl2 hb' hkl)
          · exact absurd hq hqn
      · dsimp only
        cases hib : ice with
        | false =>
          rw [hib] at hice
          exact SV.ren_R' hρ' v u (Bool.or_eq_false_iff.1 hice.symm).1 hv
        | true =>
          refine SV.ren_R ⟨Nat.le_refl _, fun b _ hb => ⟨rfl, ?_⟩⟩ hρ' v u hv
          rintro (⟨q, l1, hq, ho⟩ | hz)
          · rcases hb'cases q l1 hq with ⟨j', o', hj', rfl, hl1⟩ | ⟨hqn, hl1⟩
            · exact hb (.inl ⟨j', l1, hl1, ho⟩)
            · exact hb (.inr (hkept q l1 b (fun hqk => hqn (hsubs q hqk)) hl1 ho fun hql => hice0 hib q l1 b hql hl1 ho))
          · exact hb (.inr (by rw [hZ']; exact .inl hz))
    · cases hback
  · cases h
end
theorem frz1_sound {m : Mem} {w : World} {Z : Nat → Prop} {β : Loc} (hm : MR w Z β m) {k : Nat} {cs : List SV} (hk : m.get k = some (.cells cs)) (ix : Nat) : ∃ β', Step w w β β' ∧ MR w Z β' (m.sets (frz1 k cs ix m)) := by
  have hno : ∃ β', Step w w β β' ∧ MR w Z β' (m.sets []) := ⟨β, Step.refl w β, hm⟩
  have hgo : ∀ (j : Nat) (e : TypeId) (r : Row) (xs : List r.T), cs.getD ix .dead = .slw j → j ≠ k → (Prim.slc e r).of m (.slw j) = some xs →
      ∃ β', Step w w β β' ∧ MR w Z β' ((m.sets (freeze m [j])).set k (.cells (cs.set ix (.ps e r xs)))) := by
    intro j e r xs hj hjk hof
    have hm2 := freeze_MR hm [j]
    have hs := freeze_step (w := w) (β := β) [j]
    refine ⟨_, hs, ?_⟩
    have hget : ∀ q, ((m.sets (freeze m [j])).set k (.cells (cs.set ix (.ps e r xs)))).get q = if q = k then some (.cells (cs.set ix (.ps e r xs))) else (m.sets (freeze m [j])).get q := fun q => Mem.get_set _ _ _ _
    have hmk : (m.sets (freeze m [j])).get k = some (.cells cs) := by
      rw [get_freeze m [j] m k fun q => .inl rfl, if_neg (by simpa using fun e => hjk e.symm), hk]
    obtain ⟨l0, hl0, hob0⟩ := hm2.obs k _ hmk
    refine hm2.update (fun q => q = k) (Step.refl w _) (fun q hq => ⟨rfl, by rw [hget, if_neg hq]⟩) (fun _ _ _ _ _ _ => rfl) (fun q o hq ho => ?_) (fun q l hq hl => ⟨_, by rw [hget, if_pos hq]⟩) (fun q l b hq hl hb => ⟨hm2.apart b ⟨q, l, hl, hb⟩, fun k' l' hk' hb' => hm2.inj _ _ _ _ _ hk' hl hb' hb⟩)
    cases hq
    rw [hget, if_pos rfl] at ho
    cases ho
    refine ⟨l0, hl0, ?_⟩
    cases l0 with
    | box b =>
      obtain ⟨vs, t, hh, hrl, h1⟩ := hob0
      obtain ⟨lq, hlq, hobq⟩ := hm.obs k _ hk
      refine ⟨vs, t, hh, ?_, h1⟩
      refine SV.RL_of_get _ _ (by rw [SV.RL_len _ _ hrl]; simp) fun i x v hx hv => ?_
      rw [List.getElem?_set] at hx
      split at hx
      · rename_i hi
        split at hx
        · rename_i hlt
          cases hx
          subst hi
          have hxs : cs[ix]? = some (.slw j) := by
            rw [List.getD_eq_getElem?_getD] at hj
            cases hq : cs[ix]? with
            | none => rw [hq] at hj; cases hj
            | some y => rw [hq] at hj; simp at hj; rw [hj]
          cases lq with
          | box b' =>
            obtain ⟨vs', t', hh', hrl', _⟩ := hobq
            have hbb : b' = b := by
              obtain ⟨l2, hl2, hle⟩ := hs.le k _ hlq
              rw [hl0] at hl2
              cases hl2
              cases hle; rfl
            subst hbb
            rw [hh] at hh'
            cases hh'
            obtain ⟨v', hv', hr⟩ := SV.RL_get _ _ hrl' ix _ hxs
            rw [hv] at hv'
            cases hv'
            exact Prim.of_frz hm (ks := [j]) (.slc e r) (.slw j) xs v hof (by intro q hq; simpa [SV.keys1] using hq) hr
          | _ => exact hobq.elim
        · cases hx
      · obtain ⟨v', hv', hr⟩ := SV.RL_get _ _ hrl i x hx
        rw [hv] at hv'
        cases hv'
        exact hr
    | _ => exact hob0.elim
  unfold frz1
  split
  · rename_i j hj
    split
    · rename_i e r xs hg
      have hjk : j ≠ k := by rintro rfl; rw [hg] at hk; cases hk
      obtain ⟨β', h1, h2⟩ := hgo j e r xs hj hjk (by simp [Prim.of, hg, castRow] <;> rfl)
      refine ⟨β', h1, ?_⟩
      simp only [freeze, hg, Mem.sets] at h2
      exact h2
    · rename_i e r xs hg
      have hjk : j ≠ k := by rintro rfl; rw [hg] at hk; cases hk
      obtain ⟨β', h1, h2⟩ := hgo j e r xs hj hjk (by simp [Prim.of, hg, castRow] <;> rfl)
      refine ⟨β', h1, ?_⟩
      simp only [freeze, hg, Mem.sets] at h2
      exact h2
    · exact hno
  · exact hno
theorem nil1_sound {m : Mem} {w : World} {Z : Nat → Prop} {β : Loc} (hm : MR w Z β m) (key : Nat) (args : List SV) (h : Nat × Nat × TypeId × Row) : ∃ β', Step w w β β' ∧ MR w Z β' (m.sets (nil1 key args h m)) := by
  have hno : ∃ β', Step w w β β' ∧ MR w Z β' (m.sets []) := ⟨β, Step.refl w β, hm⟩
  unfold nil1
  split
  · rename_i k i fo ha
    split
    · rename_i cs hk
      split
      · exact frz1_sound hm hk _
      split
      · rename_i hnil
        split
        · rename_i hc
          obtain ⟨hkey, h0⟩ := hc
          have hkey : m.get key = none := by simpa using hkey
          have hbk := hm.none hkey
          have hkk : k ≠ key := by rintro rfl; rw [hkey] at hk; cases hk
          obtain ⟨β1, hβ1⟩ : ∃ β1 : Loc, β1 = β.put key (.row none 0 0 h.2.2.2.size h.2.2.1) := ⟨_, rfl⟩
          have hs : Step w w β β1 := by
            subst hβ1
            exact ⟨rfl, rfl, rfl, Nat.le_refl _, fun _ _ _ => rfl, fun b hb => by
              obtain ⟨q, l, hq, ho⟩ := hb
              simp only [Loc.put] at hq
              split at hq
              · cases hq; cases ho
              · exact .inl ⟨q, l, hq, ho⟩, fun q l hq => ⟨l, by
              simp only [Loc.put]
              rw [if_neg (fun e => by rw [e, hbk] at hq; cases hq)]
              exact hq, .refl l⟩⟩
          have hb1 : β1 key = some (.row none 0 0 h.2.2.2.size h.2.2.1) := by subst hβ1; simp [Loc.put]
          have hb2 : ∀ q, q ≠ key → β1 q = β q := by intro q hq; subst hβ1; simp [Loc.put, hq]
          obtain ⟨l0, hl0, hob0⟩ := hm.obs k _ hk
          refine ⟨β1, hs, ?_⟩
          have hg : ∀ q, (m.sets [(k, Ob.cells (cs.set (i + fo + h.2.1) (.slw key))), (key, Ob.row h.2.2.1 h.2.2.2 [])]).get q = if q = key then some (.row h.2.2.1 h.2.2.2 []) else if q = k then some (.cells (cs.set (i + fo + h.2.1) (.slw key))) else m.get q := by
            intro q
            simp only [Mem.sets, Mem.get_set]
          refine hm.update (fun q => q = k ∨ q = key) hs (fun q hq => ?_) (fun _ _ _ _ _ _ => rfl) (fun q o hq ho => ?_) (fun q l hq hl => ?_) (fun q l b hq hl hb => ?_)
          · have h1 : q ≠ k := fun e => hq (.inl e)
            have h2 : q ≠ key := fun e => hq (.inr e)
            exact ⟨hb2 q h2, by rw [hg, if_neg h2, if_neg h1]⟩
          · rw [hg] at ho
            rcases hq with rfl | rfl
            · rw [if_neg hkk, if_pos rfl] at ho
              cases ho
              refine ⟨l0, by rw [hb2 _ hkk]; exact hl0, ?_⟩
              cases l0 with
              | box b =>
                obtain ⟨vs, t, hh, hrl, h1⟩ := hob0
                refine ⟨vs, t, hh, ?_, h1⟩
                have hrl1 := SV.RL_step hs.stays hs.le _ _ hrl
                refine SV.RL_of_get _ _ (by rw [SV.RL_len _ _ hrl]; simp) fun j x v hx hv => ?_
                rw [List.getElem?_set] at hx
                split at hx
                · rename_i hj
                  split at hx
                  · rename_i hlt
                    cases hx
                    subst hj
                    obtain ⟨v', hv', hr⟩ := SV.RL_get _ _ hrl (i + fo + h.2.1) .nils (by
                      rw [List.getD_eq_getElem?_getD] at hnil
                      cases hq : cs[i + fo + h.2.1]? with
                      | none => rw [hq] at hnil; cases hnil
                      | some y => rw [hq] at hnil; simp at hnil; rw [hnil])
                    rw [hv] at hv'
                    cases hv'
                    simp only [SV.R] at hr ⊢
                    subst hr
                    exact ⟨_, hb1, none, 0, rfl, Nat.le_refl _, Nat.le_refl _, rfl, fun _ => rfl⟩
                  · cases hx
                · obtain ⟨v', hv', hr⟩ := SV.RL_get _ _ hrl1 j x hx
                  rw [hv] at hv'
                  cases hv'
                  exact hr
              | _ => exact hob0.elim
            · rw [if_pos rfl] at ho
              cases ho
              exact ⟨_, hb1, rfl, rfl, h0, rfl, [], ⟨by simp, rfl, rfl⟩, fun j hj => absurd hj (by simp)⟩
          · rcases hq with rfl | rfl
            · exact ⟨_, by rw [hg, if_neg hkk, if_pos rfl]⟩
            · exact ⟨_, by rw [hg, if_pos rfl]⟩
          · rcases hq with rfl | rfl
            · rw [hb2 _ hkk] at hl
              refine ⟨hm.apart b ⟨_, l, hl, hb⟩, fun k' l' hk' hb' => ?_⟩
              by_cases hkey' : k' = key
              · subst hkey'
                rw [hb1] at hk'
                cases hk'
                cases hb'
              · rw [hb2 _ hkey'] at hk'
                exact hm.inj _ _ _ _ _ hk' hl hb' hb
            · rw [hb1] at hl
              cases hl
              cases hb
        · exact hno
      · exact hno
    · exact hno
  · exact hno
theorem nilsUpd_sound {w : World} {Z : Nat → Prop} (d : Nat) (args : List SV) : ∀ (l : List (Nat × Nat × TypeId × Row)) (n : Nat) {m : Mem} {β : Loc}, MR w Z β m → ∃ β', Step w w β β' ∧ MR w Z β' (m.sets (nilsUpd d args l n m))
  | [], n, m, β, hm => ⟨β, Step.refl w β, hm⟩
  | h :: l, n, m, β, hm => by
    obtain ⟨β1, h1, hm1⟩ := nil1_sound hm (site d + 24 + n) args h
    obtain ⟨β2, h2, hm2⟩ := nilsUpd_sound d args l (n + 1) hm1
    exact ⟨β2, h1.trans h2, by simp only [nilsUpd, Mem.sets_append]; exact hm2⟩
theorem callx2_sound {P : Program} {w : World} {Z : Nat → Prop} {β : Loc} {m : Mem} {cb : CB} (hn : cb.Nat) (hcb : cb.CallsOK P) {byRef : FuncId → CC} {d : Nat} {f : FuncId} {args : List SV} {vs : List Value} {e : Eff} (hm : MR w Z β m)
    (h : callx2 cb byRef d f args m some = some e) (hx : SV.RL w (β.away Z) β args vs) : CallRun P f vs.toArray w (PostE Z w β m e) := by
  unfold callx2 at h
  rw [callx_nat hn] at h
  obtain ⟨e1, h1, h2⟩ := Option.bind_eq_some_iff.1 h
  cases h2
  obtain ⟨β1, hs, hm1⟩ := nilsUpd_sound d args (byRef f).nils 0 hm
  refine (callx_sound hn hcb hm1 h1 (SV.RL_step hs.stays hs.le _ _ hx)).mono fun u w' hp => ?_
  obtain ⟨β', h3, h4, h5⟩ := hp
  exact ⟨β', hs.trans h3, by rw [Mem.sets_append]; exact h4, h5⟩
end Go.Proofs.YtgakbdikappdbaaGreat.S2
