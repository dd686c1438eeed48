/-
  S2, sixteenth part: calls: what is handed over, and what comes back.
-/
import Derived.Test.YtgfanlafbjbkaaaS2o
set_option linter.unusedVariables false
set_option linter.unusedSimpArgs false
namespace Go.Proofs.Ytgfanlafbjbkaaa.S2
open Go

/-- A call of a function comes to what is wanted: the model has the value at once, or it enters the function. -/
def CallRun (P : Program) (f : FuncId) (args : Array Value) (w : World) (Post : Value → World → Prop) : Prop :=
  (∃ u w', (callFunc f args).run P w = .ok (.value u) w' ∧ Post u w') ∨
  ((callFunc f args).run P w = .ok (.enter f args) w ∧ Calls P f args w fun e w' => ∃ u, e = .returned u ∧ Post u w')

theorem CallRun.mono {P : Program} {f : FuncId} {args : Array Value} {w : World} {Post Post' : Value → World → Prop} (h : CallRun P f args w Post) (hp : ∀ u w', Post u w' → Post' u w') : CallRun P f args w Post' := by
  rcases h with ⟨u, w', h1, h2⟩ | ⟨h1, h2⟩
  · exact .inl ⟨u, w', h1, hp u w' h2⟩
  · exact .inr ⟨h1, h2.mono fun e w' ⟨u, he, hu⟩ => ⟨u, he, hp u w' hu⟩⟩

/-- What a call comes to. -/
def CallOK (P : Program) (f : FuncId) (args : List SV) (m : Mem) (v : SV) (m' : Mem) : Prop :=
  ∀ (w : World) (Z : Nat → Prop) (β : Loc) (vs : List Value), MR w Z β m → SV.RL w (β.away Z) β args vs →
    CallRun P f vs.toArray w fun u w' => ∃ β', Step w w' β β' ∧ MR w' Z β' (m.sets m') ∧ v.R w' (β'.away Z) β' u

theorem distinct_nodup : ∀ {l : List Nat}, distinct l = true → l.Nodup
  | [], _ => List.nodup_nil
  | k :: l, h => by
    simp only [distinct, Bool.and_eq_true, Bool.not_eq_true'] at h
    exact List.nodup_cons.2 ⟨by simpa using h.1, distinct_nodup h.2⟩

theorem posIn_some : ∀ {ks : List Nat} {i q j : Nat}, posIn ks i q = some j → i ≤ j ∧ ks[j - i]? = some q
  | [], i, q, j, h => by cases h
  | k :: ks, i, q, j, h => by
    simp only [posIn] at h
    split at h
    · rename_i hq
      cases h
      subst hq
      exact ⟨Nat.le_refl _, by simp⟩
    · obtain ⟨h1, h2⟩ := posIn_some h
      refine ⟨by omega, ?_⟩
      rw [show j - i = (j - (i + 1)) + 1 by omega]
      simpa using h2

theorem posIn_mem : ∀ {ks : List Nat} {i q : Nat}, q ∈ ks → ∃ j, posIn ks i q = some j
  | k :: ks, i, q, h => by
    simp only [posIn]
    by_cases hq : q = k
    · exact ⟨i, by rw [if_pos hq]⟩
    · rw [if_neg hq]
      exact posIn_mem ((List.mem_cons.1 h).resolve_left hq)

theorem get_subMem {m : Mem} {ρ : Nat → Option Nat} : ∀ (ks : List Nat) (i j : Nat), (subMem m ρ ks i).get j = if i ≤ j then (match ks[j - i]? with | some k => (m.get k).map (Ob.ren ρ) | none => none) else none
  | [], i, j => by simp [subMem, Mem.get]
  | k :: ks, i, j => by
    simp only [subMem]
    by_cases hj : j = i
    · subst hj
      cases hk : m.get k with
      | none =>
        simp only
        rw [get_subMem ks (j + 1) j, if_neg (by omega), if_pos (Nat.le_refl _)]
        simp [hk]
      | some o => simp [Mem.get, hk]
    · have hrest := get_subMem (m := m) (ρ := ρ) ks (i + 1) j
      by_cases hlt : i ≤ j
      · have e : j - i = (j - (i + 1)) + 1 := by omega
        have hle : i + 1 ≤ j := by omega
        rw [if_pos hle] at hrest
        rw [if_pos hlt, e, List.getElem?_cons_succ]
        cases hk : m.get k with
        | none => exact hrest
        | some o => simp only [Mem.get, if_neg hj]; exact hrest
      · have hle : ¬ i + 1 ≤ j := by omega
        rw [if_neg hle] at hrest
        rw [if_neg hlt]
        cases hk : m.get k with
        | none => exact hrest
        | some o => simp only [Mem.get, if_neg hj]; exact hrest

section
variable {w : World} {A A' : Nat → Prop} {β β' : Loc}

mutual
/-- Under other names. -/
theorem SV.ren_R (hst : Stays w w A A') {ρ : Nat → Option Nat} (hρ : ∀ k l j, β k = some l → ρ k = some j → β' j = some l) : (x : SV) → (v : Value) → x.R w A β v → (x.ren ρ).R w A' β' v
  | .dead, _, _ => trivial
  | .int k n, v, e => e
  | .bool b, v, e => e
  | .str s, v, e => e
  | .sl k off len, v, hr => by
    simp only [SV.ren]
    split
    · rename_i k' hk
      simp only [SV.R] at hr ⊢
      obtain ⟨l, hl, hp⟩ := hr
      exact ⟨l, hρ k l k' hl hk, hp⟩
    · trivial
  | .slw k, v, hr => by
    simp only [SV.ren]
    split
    · rename_i k' hk
      simp only [SV.R] at hr ⊢
      obtain ⟨l, hl, hp⟩ := hr
      exact ⟨l, hρ k l k' hl hk, hp⟩
    · trivial
  | .ps e r xs, v, hr => Prim.R_stays hst (.slc e r) xs v hr
  | .nils, v, e => e
  | .pe, v, e => e
  | .ptr k i fo, v, hr => by
    simp only [SV.ren]
    split
    · rename_i k' hk
      simp only [SV.R] at hr ⊢
      obtain ⟨l, hl, hp⟩ := hr
      exact ⟨l, hρ k l k' hl hk, hp⟩
    · trivial
  | .pptr e r xs i fo, v, hr => SV.R_step hst (Loc.le_refl β) (.pptr e r xs i fo) v hr
  | .nilp, v, e => e
  | .agg cs, v, hr => by
    simp only [SV.ren, SV.R] at hr ⊢
    obtain ⟨vs, hv, hl, h1⟩ := hr
    exact ⟨vs, hv, SV.renL_R hst hρ cs vs hl, h1⟩
  | .tup cs, v, hr => by
    simp only [SV.ren, SV.R] at hr ⊢
    obtain ⟨vs, hv, hl⟩ := hr
    exact ⟨vs, hv, SV.renL_R hst hρ cs vs hl⟩
  | .fn f cs, v, hr => by
    simp only [SV.ren, SV.R] at hr ⊢
    obtain ⟨vs, hv, hl⟩ := hr
    exact ⟨vs, hv, SV.renL_R hst hρ cs vs hl⟩
  | .nilf, v, e => e
  | .nili, v, e => e
  | .nilm, v, e => e
theorem SV.renL_R (hst : Stays w w A A') {ρ : Nat → Option Nat} (hρ : ∀ k l j, β k = some l → ρ k = some j → β' j = some l) : (l : List SV) → (vs : List Value) → SV.RL w A β l vs → SV.RL w A' β' (SV.ren.renL ρ l) vs
  | [], vs, e => e
  | x :: l, vs, hr => by
    simp only [SV.ren.renL, SV.RL] at hr ⊢
    obtain ⟨v, vs', hv, hx, hl⟩ := hr
    exact ⟨v, vs', hv, SV.ren_R hst hρ x v hx, SV.renL_R hst hρ l vs' hl⟩
end

mutual
/-- Under other names, where there is no list that nobody writes. -/
theorem SV.ren_R' {ρ : Nat → Option Nat} (hρ : ∀ k l j, β k = some l → ρ k = some j → β' j = some l) : (x : SV) → (v : Value) → x.hasPs = false → x.R w A β v → (x.ren ρ).R w A' β' v
  | .dead, _, _, _ => trivial
  | .int k n, v, _, e => e
  | .bool b, v, _, e => e
  | .str s, v, _, e => e
  | .sl k off len, v, _, hr => by
    simp only [SV.ren]
    split
    · rename_i k' hk
      simp only [SV.R] at hr ⊢
      obtain ⟨l, hl, hp⟩ := hr
      exact ⟨l, hρ k l k' hl hk, hp⟩
    · trivial
  | .slw k, v, _, hr => by
    simp only [SV.ren]
    split
    · rename_i k' hk
      simp only [SV.R] at hr ⊢
      obtain ⟨l, hl, hp⟩ := hr
      exact ⟨l, hρ k l k' hl hk, hp⟩
    · trivial
  | .ps e r xs, v, h, hr => by cases h
  | .nils, v, _, e => e
  | .pe, v, _, e => e
  | .ptr k i fo, v, _, hr => by
    simp only [SV.ren]
    split
    · rename_i k' hk
      simp only [SV.R] at hr ⊢
      obtain ⟨l, hl, hp⟩ := hr
      exact ⟨l, hρ k l k' hl hk, hp⟩
    · trivial
  | .pptr e r xs i fo, v, h, hr => by cases h
  | .nilp, v, _, e => e
  | .agg cs, v, h, hr => by
    simp only [SV.ren, SV.R] at hr ⊢
    obtain ⟨vs, hv, hl, h1⟩ := hr
    exact ⟨vs, hv, SV.renL_R' hρ cs vs (by simpa [SV.hasPs] using h) hl, h1⟩
  | .tup cs, v, h, hr => by
    simp only [SV.ren, SV.R] at hr ⊢
    obtain ⟨vs, hv, hl⟩ := hr
    exact ⟨vs, hv, SV.renL_R' hρ cs vs (by simpa [SV.hasPs] using h) hl⟩
  | .fn f cs, v, h, hr => by
    simp only [SV.ren, SV.R] at hr ⊢
    obtain ⟨vs, hv, hl⟩ := hr
    exact ⟨vs, hv, SV.renL_R' hρ cs vs (by simpa [SV.hasPs] using h) hl⟩
  | .nilf, v, _, e => e
  | .nili, v, _, e => e
  | .nilm, v, _, e => e
theorem SV.renL_R' {ρ : Nat → Option Nat} (hρ : ∀ k l j, β k = some l → ρ k = some j → β' j = some l) : (l : List SV) → (vs : List Value) → SV.hasPs.hasL l = false → SV.RL w A β l vs → SV.RL w A' β' (SV.ren.renL ρ l) vs
  | [], vs, _, e => e
  | x :: l, vs, h, hr => by
    simp only [SV.ren.renL, SV.RL] at hr ⊢
    simp only [SV.hasPs.hasL, Bool.or_eq_false_iff] at h
    obtain ⟨v, vs', hv, hx, hl⟩ := hr
    exact ⟨v, vs', hv, SV.ren_R' hρ x v h.1 hx, SV.renL_R' hρ l vs' h.2 hl⟩
end

theorem Row.R_plain : (r : Row) → r.hasSlc = false → (x : r.T) → (cs : List Value) → r.R w A x cs → r.R w A' x cs
  | .nil, _, _, cs, e => e
  | .cons (.int k) .nil, h, x, cs, hr => hr
  | .cons .bool .nil, h, x, cs, hr => hr
  | .cons .str .nil, h, x, cs, hr => hr
  | .cons (.slc e r) _, h, x, cs, hr => by cases h
  | .cons (.int k) (.cons q r), h, x, cs, hr => by
    obtain ⟨v, vs, hv, hp, hr⟩ := hr
    exact ⟨v, vs, hv, hp, Row.R_plain (.cons q r) h _ _ hr⟩
  | .cons .bool (.cons q r), h, x, cs, hr => by
    obtain ⟨v, vs, hv, hp, hr⟩ := hr
    exact ⟨v, vs, hv, hp, Row.R_plain (.cons q r) h _ _ hr⟩
  | .cons .str (.cons q r), h, x, cs, hr => by
    obtain ⟨v, vs, hv, hp, hr⟩ := hr
    exact ⟨v, vs, hv, hp, Row.R_plain (.cons q r) h _ _ hr⟩

/-- An object under other names. -/
theorem ObR.ren (hst : Stays w w A A') {ρ : Nat → Option Nat} (hρ : ∀ k l j, β k = some l → ρ k = some j → β' j = some l) {l : LK} {o : Ob} (h : ObR w A β l o) : ObR w A' β' l (o.ren ρ) := by
  cases l with
  | box b =>
    cases o with
    | cells cs =>
      obtain ⟨vs, t, hh, hl, h1⟩ := h
      exact ⟨vs, t, hh, SV.renL_R hst hρ cs _ hl, h1⟩
    | _ => exact h.elim
  | row =>
    cases o with
    | row e' r xs =>
      obtain ⟨he, hsz, h0, hn, cells, ho, hr⟩ := h
      exact ⟨he, hsz, h0, hn, cells, ho, hr.stays hst⟩
    | _ => exact h.elim
  | froz =>
    cases o with
    | froz e' r xs =>
      obtain ⟨he, hsz, hn, hr⟩ := h
      exact ⟨he, hsz, hn, Prim.R_stays hst (.slc e' r) xs _ hr⟩
    | _ => exact h.elim
  | gone =>
    cases o with
    | gone => trivial
    | _ => exact h.elim

theorem ObR.ren' {ρ : Nat → Option Nat} (hρ : ∀ k l j, β k = some l → ρ k = some j → β' j = some l) {l : LK} {o : Ob} (hps : o.hasPs = false) (h : ObR w A β l o) : ObR w A' β' l (o.ren ρ) := by
  cases l with
  | box b =>
    cases o with
    | cells cs =>
      obtain ⟨vs, t, hh, hl, h1⟩ := h
      exact ⟨vs, t, hh, SV.renL_R' hρ cs _ hps hl, h1⟩
    | _ => exact h.elim
  | row =>
    cases o with
    | row e' r xs =>
      obtain ⟨he, hsz, h0, hn, cells, ho, hr⟩ := h
      exact ⟨he, hsz, h0, hn, cells, ho, fun j hj => Row.R_plain r hps _ _ (hr j hj)⟩
    | _ => exact h.elim
  | froz =>
    cases o with
    | froz e' r xs => cases hps
    | _ => exact h.elim
  | gone =>
    cases o with
    | gone => trivial
    | _ => exact h.elim
end

section
variable {P : Program} {w : World} {Z : Nat → Prop} {β : Loc} {m : Mem}

mutual
/-- An argument as a callee has it that writes no list. -/
theorem SV.pure_R (hm : MR w Z β m) {lent : List Nat} {A' : Nat → Prop} (hA : ∀ b, A' b → (β.freezeL lent).away Z b) {β' : Loc} {ρ : Nat → Option Nat} (hρ : ∀ k l j, β k = some l → ρ k = some j → β' j = some l) :
    (x : SV) → (v : Value) → (∀ k, k ∈ x.lent m → k ∈ lent) → x.R w (β.away Z) β v → ((x.pure m).ren ρ).R w A' β' v
  | .sl k off len, v, hk, hr => by
    have hst : Stays w w ((β.freezeL lent).away Z) A' := ⟨Nat.le_refl _, fun b _ hb => ⟨rfl, fun h => hb (hA b h)⟩⟩
    simp only [SV.pure]
    split
    · rename_i e r xs hg
      have h1 := Prim.of_frz hm (ks := lent) (.slc e r) (.sl k off len) ((xs.drop off).take len) v (by simp [Prim.of, hg, castRow]) (by
        intro k' hk'
        simp only [SV.keys1, List.mem_singleton] at hk'
        subst hk'
        exact hk k' (by simp [SV.lent, hg])) hr
      exact Prim.R_stays hst (.slc e r) _ v h1
    · rename_i e r xs hg
      obtain ⟨l, hl, hob⟩ := hm.obs k _ hg
      have hr' := hr
      simp only [SV.R] at hr
      obtain ⟨l', hl', hp⟩ := hr
      rw [hl] at hl'
      cases hl'
      have h1 := Prim.of_frz hm (ks := k :: lent) (.slc e r) (.sl k off len) ((xs.drop off).take len) v (by simp [Prim.of, hg, castRow]) (by
        intro k' hk'
        simp only [SV.keys1, List.mem_singleton] at hk'
        subst hk'
        exact List.mem_cons_self) hr'
      refine Prim.R_stays ⟨Nat.le_refl _, fun b _ hb => ⟨rfl, fun h => hb ?_⟩⟩ (.slc e r) _ v h1
      rcases hA b h with ⟨q, lq, hq, ho⟩ | hz
      · refine .inl ⟨q, lq, ?_, ho⟩
        simp only [Loc.freezeL] at hq ⊢
        by_cases hqk : q = k
        · subst hqk
          exfalso
          cases l with
          | froz =>
            rw [hl] at hq
            split at hq
            · cases hq; cases ho
            · cases hq; cases ho
          | _ => exact hob.elim
        · simp only [List.mem_cons, hqk, false_or]
          exact hq
      · exact .inr hz
    · trivial
  | .slw k, v, hk, hr => by
    have hst : Stays w w ((β.freezeL lent).away Z) A' := ⟨Nat.le_refl _, fun b _ hb => ⟨rfl, fun h => hb (hA b h)⟩⟩
    simp only [SV.pure]
    split
    · rename_i e r xs hg
      have h1 := Prim.of_frz hm (ks := lent) (.slc e r) (.slw k) xs v (by simp [Prim.of, hg, castRow]) (by
        intro k' hk'
        simp only [SV.keys1, List.mem_singleton] at hk'
        subst hk'
        exact hk k' (by simp [SV.lent, hg])) hr
      exact Prim.R_stays hst (.slc e r) _ v h1
    · rename_i e r xs hg
      obtain ⟨l, hl, hob⟩ := hm.obs k _ hg
      have hr' := hr
      simp only [SV.R] at hr
      obtain ⟨l', hl', hp⟩ := hr
      rw [hl] at hl'
      cases hl'
      have h1 := Prim.of_frz hm (ks := k :: lent) (.slc e r) (.slw k) xs v (by simp [Prim.of, hg, castRow]) (by
        intro k' hk'
        simp only [SV.keys1, List.mem_singleton] at hk'
        subst hk'
        exact List.mem_cons_self) hr'
      refine Prim.R_stays ⟨Nat.le_refl _, fun b _ hb => ⟨rfl, fun h => hb ?_⟩⟩ (.slc e r) _ v h1
      rcases hA b h with ⟨q, lq, hq, ho⟩ | hz
      · refine .inl ⟨q, lq, ?_, ho⟩
        simp only [Loc.freezeL] at hq ⊢
        by_cases hqk : q = k
        · subst hqk
          exfalso
          cases l with
          | froz =>
            rw [hl] at hq
            split at hq
            · cases hq; cases ho
            · cases hq; cases ho
          | _ => exact hob.elim
        · simp only [List.mem_cons, hqk, false_or]
          exact hq
      · exact .inr hz
    · trivial
  | .agg cs, v, hk, hr => by
    simp only [SV.pure, SV.ren, SV.R] at hr ⊢
    obtain ⟨vs, hv, hl, h1⟩ := hr
    exact ⟨vs, hv, SV.pureL_R hm hA hρ cs vs (by simpa [SV.lent] using hk) hl, h1⟩
  | .dead, _, _, _ => trivial
  | .int k n, v, _, e => e
  | .bool b, v, _, e => e
  | .str s, v, _, e => e
  | .ps e r xs, v, _, hr => by
    have hst : Stays w w (β.away Z) A' := ⟨Nat.le_refl _, fun b _ hb => ⟨rfl, fun h => hb ((hA b h).elim (fun h => .inl (freeze_owned h)) .inr)⟩⟩
    exact SV.ren_R hst hρ (.ps e r xs) v hr
  | .nils, v, _, e => e
  | .pe, v, _, e => e
  | .ptr k i fo, v, _, hr => by
    have hst : Stays w w (β.away Z) A' := ⟨Nat.le_refl _, fun b _ hb => ⟨rfl, fun h => hb ((hA b h).elim (fun h => .inl (freeze_owned h)) .inr)⟩⟩
    exact SV.ren_R hst hρ (.ptr k i fo) v hr
  | .pptr e r xs i fo, v, _, hr => by
    have hst : Stays w w (β.away Z) A' := ⟨Nat.le_refl _, fun b _ hb => ⟨rfl, fun h => hb ((hA b h).elim (fun h => .inl (freeze_owned h)) .inr)⟩⟩
    exact SV.ren_R hst hρ (.pptr e r xs i fo) v hr
  | .nilp, v, _, e => e
  | .tup cs, v, _, hr => by
    have hst : Stays w w (β.away Z) A' := ⟨Nat.le_refl _, fun b _ hb => ⟨rfl, fun h => hb ((hA b h).elim (fun h => .inl (freeze_owned h)) .inr)⟩⟩
    exact SV.ren_R hst hρ (.tup cs) v hr
  | .fn f cs, v, _, hr => by
    have hst : Stays w w (β.away Z) A' := ⟨Nat.le_refl _, fun b _ hb => ⟨rfl, fun h => hb ((hA b h).elim (fun h => .inl (freeze_owned h)) .inr)⟩⟩
    exact SV.ren_R hst hρ (.fn f cs) v hr
  | .nilf, v, _, e => e
  | .nili, v, _, e => e
  | .nilm, v, _, e => e
theorem SV.pureL_R (hm : MR w Z β m) {lent : List Nat} {A' : Nat → Prop} (hA : ∀ b, A' b → (β.freezeL lent).away Z b) {β' : Loc} {ρ : Nat → Option Nat} (hρ : ∀ k l j, β k = some l → ρ k = some j → β' j = some l) :
    (l : List SV) → (vs : List Value) → (∀ k, k ∈ SV.lent.lentL m l → k ∈ lent) → SV.RL w (β.away Z) β l vs → SV.RL w A' β' (SV.ren.renL ρ (SV.pure.pureL m l)) vs
  | [], vs, _, e => e
  | x :: l, vs, hk, hr => by
    simp only [SV.pure.pureL, SV.ren.renL, SV.RL] at hr ⊢
    obtain ⟨v, vs', hv, hx, hl⟩ := hr
    exact ⟨v, vs', hv, SV.pure_R hm hA hρ x v (fun k h => hk k (by simp [SV.lent.lentL, h])) hx, SV.pureL_R hm hA hρ l vs' (fun k h => hk k (by simp [SV.lent.lentL, h])) hl⟩
end
end
end Go.Proofs.Ytgfanlafbjbkaaa.S2
