/-
  S2, twelfth part: rows that are frozen; literals of slices.
-/
import Derived.Test.YtgfanlafbjbkaaaS2k
set_option linter.unusedVariables false
set_option linter.unusedSimpArgs false
namespace Go.Proofs.Ytgfanlafbjbkaaa.S2
open Go

def LK.frz : LK → LK
  | .row ad cap n sz e => .froz ad cap n sz e
  | l => l

def Ob.frz : Ob → Ob
  | .row e r xs => .froz e r xs
  | o => o

def Loc.freezeL (β : Loc) (ks : List Nat) : Loc := fun q => if q ∈ ks then (β q).map LK.frz else β q

theorem LK.le_frz (l : LK) : l.le l.frz := by cases l <;> first | exact .refl _ | exact .froz ..

theorem Mem.sets_append (l l' : List (Nat × Ob)) : ∀ m : Mem, m.sets (l ++ l') = (m.sets l).sets l' := by
  induction l with
  | nil => intro m; rfl
  | cons x l ih => intro m; obtain ⟨k, o⟩ := x; simp only [List.cons_append, Mem.sets]; exact ih _

theorem get_freeze (m0 : Mem) : ∀ (ks : List Nat) (m : Mem) (q : Nat), (∀ k, m.get k = m0.get k ∨ m.get k = (m0.get k).map Ob.frz) → (m.sets (freeze m0 ks)).get q = if q ∈ ks then (m0.get q).map Ob.frz else m.get q
  | [], m, q, _ => by simp [freeze, Mem.sets]
  | k :: ks, m, q, h => by
    simp only [freeze]
    cases hk : m0.get k with
    | none =>
      simp only
      rw [get_freeze m0 ks m q h]
      by_cases hq : q = k
      · subst hq
        have h1 : m.get q = none := by rcases h q with h | h <;> rw [h, hk] <;> rfl
        simp [hk, h1]
      · simp [hq]
    | some o =>
      cases o with
      | row e r xs =>
        simp only [Mem.sets]
        rw [get_freeze m0 ks _ q fun k' => ?_]
        · by_cases hq : q = k
          · subst hq
            simp [Mem.get_set, hk, Ob.frz]
          · simp [Mem.get_set, hq]
        · rw [Mem.get_set]
          split
          · rename_i hk'
            subst hk'
            exact .inr (by rw [hk]; rfl)
          · exact h k'
      | _ =>
        simp only
        rw [get_freeze m0 ks m q h]
        by_cases hq : q = k
        · subst hq
          have h1 : m.get q = m0.get q := by rcases h q with h | h <;> rw [h, hk] <;> rfl
          simp [hk, h1, Ob.frz]
        · simp [hq]

section
variable {P : Program} {w : World} {Z : Nat → Prop} {β : Loc} {m : Mem}

theorem freeze_owned {ks : List Nat} {b : Nat} (h : (β.freezeL ks).owned b) : β.owned b := by
  obtain ⟨k, l, hl, ho⟩ := h
  simp only [Loc.freezeL] at hl
  split at hl
  · cases hb : β k with
    | none => rw [hb] at hl; cases hl
    | some l' =>
      rw [hb] at hl
      cases hl
      cases l' with
      | row => cases ho
      | box => exact ⟨k, _, hb, ho⟩
      | froz => cases ho
      | gone => cases ho
  · exact ⟨k, l, hl, ho⟩

theorem freeze_step (ks : List Nat) : Step w w β (β.freezeL ks) where
  os := rfl
  tape := rfl
  output := rfl
  size := Nat.le_refl _
  block _ _ _ := rfl
  own b h := .inl (freeze_owned h)
  le k l h := by
    simp only [Loc.freezeL]
    split
    · exact ⟨l.frz, by rw [h]; rfl, l.le_frz⟩
    · exact ⟨l, h, .refl l⟩

/-- A row that is frozen is a list that nobody writes. -/
theorem froz_pure (hm : MR w Z β m) {ks : List Nat} {k : Nat} (hk : k ∈ ks) {ad : Option Nat} {cap n sz : Nat} {e : TypeId} (hl : β k = some (.row ad cap n sz e)) {r : Row} {xs : List r.T} (hsz : sz = r.size) (h0 : 0 < sz) (hn : n = xs.length)
    {cells : List Value} (ho : w.ownsRow 0 e sz (.slice (atG ad) n cap) n cells) (hr : RowsR w (β.away Z) r xs cells) : (Prim.slc e r).R w ((β.freezeL ks).away Z) xs (.slice (atG ad) n cap) := by
  subst hsz hn
  have hst : Stays w w (β.away Z) ((β.freezeL ks).away Z) := (freeze_step ks).stays
  simp only [Prim.R]
  have hcap : CapOk (atG ad) xs.length cap := by
    rcases ho.2 with ⟨hv0, h⟩ | ⟨g, cap', cur, hv, _, _, h, _⟩
    · simp at hv0; exact ⟨by omega, fun _ => by omega⟩
    · simp at hv; exact ⟨by omega, fun h => by rw [h] at hv; simp at hv⟩
  refine ⟨_, cap, rfl, hcap, fun j hj => ?_⟩
  cases ad with
  | none => have := ownsRow_none ho; omega
  | some g =>
    refine ⟨⟨g, 0, none⟩, (cells.drop (j * r.size)).take r.size, rfl, ?_, ?_, ?_, fun i u hu => ?_, ?_⟩
    · rintro (⟨k', l', hk', hb⟩ | hz)
      · have hkk : k' = k := by
          have hold : ∃ l0, β k' = some l0 ∧ l0.own = some g := by
            simp only [Loc.freezeL] at hk'
            split at hk'
            · cases hb0 : β k' with
              | none => rw [hb0] at hk'; cases hk'
              | some l0 =>
                rw [hb0] at hk'
                cases hk'
                cases l0 with
                | row => cases hb
                | box => exact ⟨_, rfl, hb⟩
                | froz => cases hb
                | gone => cases hb
            · exact ⟨l', hk', hb⟩
          obtain ⟨l0, h1, h2⟩ := hold
          exact hm.inj k' k l0 _ g h1 hl h2 rfl
        subst hkk
        simp only [Loc.freezeL, if_pos hk, hl] at hk'
        cases hk'
        cases hb
      · exact hm.apart g ⟨k, _, hl, rfl⟩ hz
    · exact (ho.lt g (by simp [Value.ownBlock, atG])).2
    · have h1 : (j + 1) * r.size ≤ xs.length * r.size := Nat.mul_le_mul_right _ hj
      rw [Nat.add_mul] at h1
      rw [List.length_take, List.length_drop, ho.1]
      omega
    · obtain ⟨hi, hu⟩ := get_row hu
      have := ho.cells (g := g) (by simp [Value.ownBlock, atG]) _ _ hu
      rw [add_mk] at this ⊢
      simpa using this
    · exact Row.R_stays hst r _ _ (hr j hj)

theorem freeze_MR (hm : MR w Z β m) (ks : List Nat) : MR w Z (β.freezeL ks) (m.sets (freeze m ks)) := by
  have hget : ∀ q, (m.sets (freeze m ks)).get q = if q ∈ ks then (m.get q).map Ob.frz else m.get q := fun q => get_freeze m ks m q fun k => .inl rfl
  have hstep := freeze_step (w := w) (β := β) ks
  refine hm.update (fun q => q ∈ ks) hstep (fun q hq => ⟨by simp [Loc.freezeL, hq], by rw [hget, if_neg hq]⟩) (fun q l b _ _ _ => rfl) (fun q o hq hg => ?_) (fun q l hq hl => ?_) (fun q l b hq hl hb => ?_)
  · rw [hget, if_pos hq] at hg
    cases hm0 : m.get q with
    | none => rw [hm0] at hg; cases hg
    | some o0 =>
      rw [hm0] at hg
      cases hg
      obtain ⟨l, hl, hob⟩ := hm.obs q o0 hm0
      refine ⟨l.frz, by simp [Loc.freezeL, hq, hl], ?_⟩
      cases l with
      | row ad cap n sz e =>
        cases o0 with
        | row e' r xs =>
          obtain ⟨he, hsz, h0, hn, cells, ho, hr⟩ := hob
          exact ⟨he, hsz, hn, by subst he; exact froz_pure hm hq hl hsz h0 hn ho hr⟩
        | _ => exact hob.elim
      | _ =>
        have := hob.kept hstep.stays hstep.le fun b _ => rfl
        cases o0 <;> first | exact this | exact this.elim
  · rw [hget, if_pos hq]
    simp only [Loc.freezeL, if_pos hq] at hl
    cases hb : β q with
    | none => rw [hb] at hl; cases hl
    | some l0 =>
      obtain ⟨o, ho⟩ := hm.dom q l0 hb
      exact ⟨_, by rw [ho]; rfl⟩
  · have hex : ∃ l0, β q = some l0 ∧ l0.own = some b := by
      simp only [Loc.freezeL, if_pos hq] at hl
      cases hb0 : β q with
      | none => rw [hb0] at hl; cases hl
      | some l0 =>
        rw [hb0] at hl
        cases hl
        cases l0 with
        | row => cases hb
        | box => exact ⟨_, rfl, hb⟩
        | froz => cases hb
        | gone => cases hb
    obtain ⟨l0, h1, h2⟩ := hex
    refine ⟨hm.apart b ⟨q, l0, h1, h2⟩, fun k' l' hk' hb' => ?_⟩
    have hex' : ∃ l0, β k' = some l0 ∧ l0.own = some b := by
      simp only [Loc.freezeL] at hk'
      split at hk'
      · cases hb0 : β k' with
        | none => rw [hb0] at hk'; cases hk'
        | some l0 =>
          rw [hb0] at hk'
          cases hk'
          cases l0 with
          | row => cases hb'
          | box => exact ⟨_, rfl, hb'⟩
          | froz => cases hb'
          | gone => cases hb'
      · exact ⟨l', hk', hb'⟩
    obtain ⟨l1, h3, h4⟩ := hex'
    exact hm.inj k' q l1 l0 b h3 h1 h4 h2

/-- A part of a list that nobody writes. -/
theorem Prim.of_frz0 (hm : MR w Z β m) {ks : List Nat} : (p : Prim) → (x : SV) → (y : p.T) → (v : Value) → (∀ k, x ≠ .slw k) → p.of m x = some y → (∀ k, k ∈ x.keys1 → k ∈ ks) → x.R w (β.away Z) β v → p.R w ((β.freezeL ks).away Z) y v := by
  intro p x y v hnw h hks hx
  have hst : Stays w w (β.away Z) ((β.freezeL ks).away Z) := (freeze_step ks).stays
  cases p with
  | int k =>
    cases x with
    | int k' n =>
      simp only [Prim.of] at h
      split at h
      · rename_i hk
        subst hk
        cases h
        exact hx
      · cases h
    | _ => simp [Prim.of] at h
  | bool =>
    cases x with
    | bool b => simp only [Prim.of] at h; cases h; exact hx
    | _ => simp [Prim.of] at h
  | str =>
    cases x with
    | str b => simp only [Prim.of] at h; cases h; exact hx
    | _ => simp [Prim.of] at h
  | slc e r =>
    cases x with
    | ps e' r' xs =>
      simp only [Prim.of] at h
      split at h
      · rename_i hr
        split at h
        · rename_i he
          subst hr
          subst he
          cases h
          exact Prim.R_stays hst (.slc e' r') xs v hx
        · cases h
      · cases h
    | nils =>
      simp only [Prim.of] at h
      cases h
      simp only [SV.R] at hx
      subst hx
      simp only [Prim.R]
      exact ⟨none, 0, rfl, ⟨Nat.le_refl _, fun _ => rfl⟩, fun j hj => absurd hj (by simp)⟩
    | pe =>
      simp only [Prim.of] at h
      cases h
      simp only [SV.R] at hx
      obtain ⟨a, cap, rfl⟩ := hx
      simp only [Prim.R]
      exact ⟨some a, cap, rfl, ⟨Nat.zero_le _, fun h => by cases h⟩, fun j hj => absurd hj (by simp)⟩
    | slw k => exact (hnw k rfl).elim
    | sl k off len =>
      have hk : k ∈ ks := hks k (by simp [SV.keys1])
      simp only [SV.R] at hx
      obtain ⟨lk, hlk, hp⟩ := hx
      have hgo : ∀ (xs : List r.T) (ad : Option Nat) (cap : Nat), (Prim.slc e r).R w ((β.freezeL ks).away Z) xs (.slice (atG ad) xs.length cap) → pieceOf ad cap xs.length r.size off len v → (Prim.slc e r).R w ((β.freezeL ks).away Z) ((xs.drop off).take len) v := by
        intro xs ad cap hR hpc
        simp only [Prim.R] at hR ⊢
        obtain ⟨ad', cap', hv, hle, hx⟩ := hR
        simp at hv
        obtain ⟨A', c, rfl, hlc, hoff, hcap, ha⟩ := hpc
        have hlen : ((xs.drop off).take len).length = len := by simp; omega
        refine ⟨A', c, by rw [show List.length ((xs.drop off).take len) = len from hlen], by rw [show List.length ((xs.drop off).take len) = len from hlen]; exact ⟨hlc, fun h0 => by
          by_cases hc0 : c = 0
          · exact hc0
          · have hA := ha (.inl hc0)
            rw [h0] at hA
            cases ad with
            | some g => simp at hA
            | none => have := hle.2 (by rw [← hv.1]; rfl); omega⟩, fun j hj => ?_⟩
        have hj' : j < len := by rw [← hlen]; exact hj
        obtain ⟨a, cs, had, hA, hlt, hl, hc, hR⟩ := hx (off + j) (by omega)
        cases ad with
        | none => rw [had] at hv; simp [atG] at hv
        | some g =>
          rw [had] at hv
          simp [atG] at hv
          obtain ⟨rfl, _⟩ := hv
          refine ⟨⟨g, off * r.size, none⟩, cs, ha (.inl (by omega)), hA, hlt, hl, fun i u hu => ?_, ?_⟩
          · have := hc i u hu
            rw [add_mk] at this ⊢
            rwa [show off * r.size + (j * r.size + i) = 0 + ((off + j) * r.size + i) by rw [Nat.add_mul]; omega]
          · have e1 : ((xs.drop off).take len).get ⟨j, hj⟩ = xs.get ⟨off + j, by omega⟩ := by simp
            rw [show List.get (α := r.T) ((xs.drop off).take len) ⟨j, hj⟩ = xs.get ⟨off + j, by omega⟩ from e1]
            exact hR
      simp only [Prim.of] at h
      split at h
      · rename_i e1 r1 xs1 hg
        split at h
        · rename_i hr
          subst hr
          split at h
          · rename_i he
            subst he
            cases h
            obtain ⟨l', hl', hob⟩ := hm.obs k _ hg
            rw [hlk] at hl'; cases hl'
            cases lk with
            | row ad cap n sz e' =>
              obtain ⟨rfl, hsz, h0, hn, cells, ho, hrr⟩ := hob
              have := froz_pure hm hk hlk hsz h0 hn ho hrr
              subst hsz hn
              exact hgo xs1 ad cap this hp
            | _ => exact hob.elim
          · cases h
        · cases h
      · rename_i e1 r1 xs1 hg
        split at h
        · rename_i hr
          subst hr
          split at h
          · rename_i he
            subst he
            cases h
            obtain ⟨l', hl', hob⟩ := hm.obs k _ hg
            rw [hlk] at hl'; cases hl'
            cases lk with
            | froz ad cap n sz e' =>
              obtain ⟨rfl, hsz, hn, hR⟩ := hob
              subst hsz hn
              exact hgo xs1 ad cap (Prim.R_stays hst (.slc e' r1) xs1 _ hR) hp
            | _ => exact hob.elim
          · cases h
        · cases h
      · cases h
    | _ => simp [Prim.of] at h

theorem Prim.of_frz (hm : MR w Z β m) {ks : List Nat} (p : Prim) (x : SV) (y : p.T) (v : Value) (h : p.of m x = some y) (hks : ∀ k, k ∈ x.keys1 → k ∈ ks) (hx : x.R w (β.away Z) β v) : p.R w ((β.freezeL ks).away Z) y v := by
  cases x with
  | slw k =>
    cases p with
    | slc e r =>
      simp only [Prim.of] at h
      have hgo : ∀ xs : List r.T, (SV.sl k 0 xs.length).R w (β.away Z) β v → (Prim.slc e r).of m (.sl k 0 xs.length) = some ((xs.drop 0).take xs.length) → (Prim.slc e r).R w ((β.freezeL ks).away Z) xs v := by
        intro xs hr ho
        have h2 := Prim.of_frz0 hm (.slc e r) (.sl k 0 xs.length) ((xs.drop 0).take xs.length) v (by intro k' hk'; cases hk') ho hks hr
        have e : (xs.drop 0).take xs.length = xs := by simp
        rw [e] at h2
        exact h2
      have hres := res_R hm hx
      simp only [SV.res] at hres
      split at h
      · rename_i e1 r1 xs1 hg
        split at h
        · rename_i hr
          subst hr
          split at h
          · rename_i he
            subst he
            cases h
            rw [hg] at hres
            exact hgo xs1 hres (by simp [Prim.of, hg, castRow]; rfl)
          · cases h
        · cases h
      · rename_i e1 r1 xs1 hg
        split at h
        · rename_i hr
          subst hr
          split at h
          · rename_i he
            subst he
            cases h
            rw [hg] at hres
            exact hgo xs1 hres (by simp [Prim.of, hg, castRow]; rfl)
          · cases h
        · cases h
      · cases h
    | _ => cases h
  | _ => exact Prim.of_frz0 hm p _ y v (by intro k hk; cases hk) h hks hx
end
end Go.Proofs.Ytgfanlafbjbkaaa.S2
