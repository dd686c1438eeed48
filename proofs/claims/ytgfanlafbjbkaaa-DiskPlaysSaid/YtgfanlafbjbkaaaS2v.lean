/-
  S2, twenty-second part: what is kept at the head of a loop's round; code hands its outcome on.
-/
import Derived.Test.YtgfanlafbjbkaaaS2u
set_option linter.unusedVariables false
set_option linter.unusedSimpArgs false
namespace Go.Proofs.Ytgfanlafbjbkaaa.S2
open Go

/-- From one world to another, where names of the frame's own may change: those below 500 are the callers'. -/
structure WStep (w w' : World) (β β' : Loc) : Prop where
  os : w'.os = w.os
  tape : w'.tape = w.tape
  output : w'.output = w.output
  size : w.heap.size ≤ w'.heap.size
  block : ∀ b, b < w.heap.size → ¬ β.owned b → w'.heap[b]? = w.heap[b]?
  own : ∀ b, β'.owned b → β.owned b ∨ w.heap.size ≤ b
  le : ∀ k l, k < 500 → β k = some l → ∃ l', β' k = some l' ∧ l.le l'

theorem Step.weak {w w' : World} {β β' : Loc} (h : Step w w' β β') : WStep w w' β β' := ⟨h.os, h.tape, h.output, h.size, h.block, h.own, fun k l _ hl => h.le k l hl⟩

theorem WStep.refl (w : World) (β : Loc) : WStep w w β β := (Step.refl w β).weak

theorem WStep.trans {w w1 w2 : World} {β β1 β2 : Loc} (h : WStep w w1 β β1) (k : WStep w1 w2 β1 β2) : WStep w w2 β β2 :=
  ⟨k.os.trans h.os, k.tape.trans h.tape, k.output.trans h.output, Nat.le_trans h.size k.size,
    fun b hb ho => (k.block b (Nat.lt_of_lt_of_le hb h.size) (fun h1 => (h.own b h1).elim ho (by omega))).trans (h.block b hb ho),
    fun b hb => (k.own b hb).elim (fun h1 => h.own b h1) (fun h1 => .inr (Nat.le_trans h.size h1)), fun q l hq hl => by
      obtain ⟨l1, h1, e1⟩ := h.le q l hq hl
      obtain ⟨l2, h2, e2⟩ := k.le q l1 hq h1
      exact ⟨l2, h2, e1.trans e2⟩⟩

/-! ### other names -/

def renMem (ρ : Nat → Option Nat) (m : Mem) : Mem := m.filterMap fun x => match ρ x.1 with | some k => some (k, x.2.ren ρ) | none => none

theorem renMem_none {ρ : Nat → Option Nat} {q : Nat} : ∀ (m : Mem), (∀ k, k ∈ names m → ρ k ≠ some q) → (renMem ρ m).get q = none
  | [], _ => rfl
  | (k, o) :: m, h => by
    have hr := renMem_none m fun k' hk' => h k' (by simp [names, hk'])
    have hk := h k (by simp [names])
    simp only [renMem, List.filterMap_cons] at hr ⊢
    cases hρ : ρ k with
    | none => exact hr
    | some k' =>
      simp only [Mem.get]
      rw [if_neg ?_]
      · exact hr
      · rintro rfl
        exact hk hρ

theorem renMem_some {ρ : Nat → Option Nat} {q k : Nat} (hk : ρ k = some q) : ∀ (m : Mem), (∀ k', k' ∈ names m → ρ k' = some q → k' = k) → (renMem ρ m).get q = (m.get k).map (Ob.ren ρ)
  | [], _ => rfl
  | (k', o) :: m, h => by
    have hr := renMem_some hk m fun k' hk' => h k' (by simp [names, hk'])
    have hk' := h k' (by simp [names])
    simp only [renMem, List.filterMap_cons] at hr ⊢
    by_cases hkk : k = k'
    · subst hkk
      simp [hk, Mem.get]
    · simp only [Mem.get, if_neg hkk]
      cases hρ : ρ k' with
      | none => exact hr
      | some q' =>
        simp only [Mem.get]
        rw [if_neg ?_]
        · exact hr
        · rintro rfl
          exact hkk (hk' hρ).symm

theorem names_get {m : Mem} {k : Nat} : k ∈ names m ↔ ∃ o, m.get k = some o := by
  induction m with
  | nil => simp [names, Mem.get]
  | cons x m ih =>
    obtain ⟨k', o⟩ := x
    simp only [names, List.mem_cons, ih, Mem.get]
    by_cases h : k = k'
    · simp [h]
    · simp [h]

section
variable {w : World} {Z : Nat → Prop} {β β' : Loc} {m : Mem} {ts : List SV} {a : Act}

theorem ren_MR (hm : MR w Z β m) {ρ : Nat → Option Nat} (h1 : ∀ k l q, β k = some l → ρ k = some q → β' q = some l) (h2 : ∀ q l, β' q = some l → ∃ k, ρ k = some q ∧ β k = some l)
    (hinj : ∀ k k' q, k ∈ names m → k' ∈ names m → ρ k = some q → ρ k' = some q → k = k') :
    MR w Z β' (renMem ρ m) ∧ (∀ b, β'.owned b → β.owned b) ∧ ∀ (x : SV) (v : Value), x.R w (β.away Z) β v → (x.ren ρ).R w (β'.away Z) β' v := by
  have hown : ∀ b, β'.owned b → β.owned b := by
    rintro b ⟨q, l, hq, hb⟩
    obtain ⟨k, _, hk⟩ := h2 q l hq
    exact ⟨k, l, hk, hb⟩
  have hst : Stays w w (β.away Z) (β'.away Z) := ⟨Nat.le_refl _, fun b _ hb => ⟨rfl, fun h => hb (h.imp (hown b) id)⟩⟩
  have hin : ∀ k l, β k = some l → k ∈ names m := fun k l hl => by
    obtain ⟨o, ho⟩ := hm.dom k l hl
    exact names_get.2 ⟨o, ho⟩
  refine ⟨⟨fun q o ho => ?_, fun q l hl => ?_, fun q q' l l' b hl hl' hb hb' => ?_, fun b hb => hm.apart b (hown b hb), hm.old⟩, hown, fun x v hx => SV.ren_R hst h1 x v hx⟩
  · by_cases he : ∃ k, k ∈ names m ∧ ρ k = some q
    · obtain ⟨k, hk, hρ⟩ := he
      rw [renMem_some hρ m fun k' hk' hρ' => hinj k' k q hk' hk hρ' hρ] at ho
      obtain ⟨o0, ho0, rfl⟩ := Option.map_eq_some_iff.1 ho
      obtain ⟨l, hl, hob⟩ := hm.obs k o0 ho0
      exact ⟨l, h1 k l q hl hρ, hob.ren hst h1⟩
    · rw [renMem_none m fun k hk hρ => he ⟨k, hk, hρ⟩] at ho
      cases ho
  · obtain ⟨k, hρ, hk⟩ := h2 q l hl
    obtain ⟨o, ho⟩ := hm.dom k l hk
    rw [renMem_some hρ m fun k' hk' hρ' => hinj k' k q hk' (hin k l hk) hρ' hρ, ho]
    exact ⟨_, rfl⟩
  · obtain ⟨k, hρ, hk⟩ := h2 q l hl
    obtain ⟨k', hρ', hk'⟩ := h2 q' l' hl'
    have := hm.inj k k' l l' b hk hk' hb hb'
    subst this
    rw [hρ] at hρ'
    cases hρ'
    rfl

theorem renL_getD (ρ : Nat → Option Nat) : ∀ (l : List SV) (i : Nat), (SV.ren.renL ρ l).getD i .dead = (l.getD i .dead).ren ρ
  | [], i => by simp [SV.ren.renL, SV.ren]
  | x :: l, 0 => by simp [SV.ren.renL]
  | x :: l, i + 1 => by
    have := renL_getD ρ l i
    simpa [SV.ren.renL] using this

theorem renL_length (ρ : Nat → Option Nat) : ∀ (l : List SV), (SV.ren.renL ρ l).length = l.length
  | [] => rfl
  | x :: l => by simp [SV.ren.renL, renL_length ρ l]

/-- Some names are kept. -/
theorem keep_sound (hF : FR w (β.away Z) β ts a) (hm : MR w Z β m) {ρ : Nat → Option Nat} (hρ : ∀ k q, ρ k = some q → q = k) (hlow : ∀ k l, k < 500 → β k = some l → ρ k = some k) :
    ∃ β', WStep w w β β' ∧ FR w (β'.away Z) β' (SV.ren.renL ρ ts) a ∧ MR w Z β' (renMem ρ m) := by
  obtain ⟨h1, h2, h3⟩ := ren_MR (β' := fun q => if ρ q = some q then β q else none) hm (ρ := ρ) (fun k l q hk hq => by
      have := hρ k q hq
      subst this
      simp only [hq, if_true, hk]) (fun q l hl => by
      try dsimp only at hl
      split at hl
      · rename_i h; exact ⟨q, h, hl⟩
      · cases hl) (fun k k' q _ _ h h' => by rw [← hρ k q h, ← hρ k' q h'])
  refine ⟨_, ⟨rfl, rfl, rfl, Nat.le_refl _, fun _ _ _ => rfl, fun b hb => .inl (h2 b hb), fun k l hk hl => ⟨l, ?_, .refl l⟩⟩, ⟨by rw [renL_length]; exact hF.len, fun i => by rw [renL_getD]; exact h3 _ _ (hF.val i), hF.defers⟩, h1⟩
  try dsimp only
  rw [if_pos (hlow k l hk hl)]
  exact hl

theorem gone_sound (hF : FR w (β.away Z) β ts a) (hm : MR w Z β m) {k : Nat} (hk : β k = none) : WStep w w β (β.put k .gone) ∧ FR w ((β.put k .gone).away Z) (β.put k .gone) ts a ∧ MR w Z (β.put k .gone) (m.set k .gone) := by
  have hs : Step w w β (β.put k .gone) := ⟨rfl, rfl, rfl, Nat.le_refl _, fun _ _ _ => rfl, fun b hb => by
    obtain ⟨q, l, hq, ho⟩ := hb
    simp only [Loc.put] at hq
    split at hq
    · cases hq; cases ho
    · exact .inl ⟨q, l, hq, ho⟩, fun q l hq => ⟨l, by
    simp only [Loc.put]
    rw [if_neg (fun e => by rw [e, hk] at hq; cases hq)]
    exact hq, .refl l⟩⟩
  refine ⟨hs.weak, ⟨hF.len, fun i => SV.R_step hs.stays hs.le _ _ (hF.val i), hF.defers⟩, ?_⟩
  refine hm.update (fun q => q = k) hs (fun q hq => ⟨by simp [Loc.put, hq], by rw [Mem.get_set, if_neg hq]⟩) (fun _ _ _ _ _ _ => rfl) (fun q o hq hg => ?_) (fun q l hq hl => ?_) (fun q l b hq hl hb => ?_)
  · subst hq
    rw [Mem.get_set, if_pos rfl] at hg
    cases hg
    exact ⟨.gone, by simp [Loc.put], trivial⟩
  · subst hq
    exact ⟨.gone, by rw [Mem.get_set, if_pos rfl]⟩
  · subst hq
    simp [Loc.put] at hl
    subst hl
    cases hb

theorem move_sound {st : St} (hF : FR w (β.away Z) β st.tmps a) (hm : MR w Z β st.mem) {k key : Nat} (hkey : st.mem.get key = none) (hhigh : 500 ≤ key) (hne : k ≠ key) (hbox : ∀ b, β k ≠ some (.box b)) :
    ∃ β', WStep w w β β' ∧ FR w (β'.away Z) β' (moveName k key st).tmps a ∧ MR w Z β' (moveName k key st).mem := by
  have hbk := hm.none hkey
  have hren : ∀ q, (fun q => if q = k then some key else some q) q = some key → q ≠ key → q = k := by
    intro q hq hqk
    dsimp only at hq
    split at hq
    · assumption
    · cases hq; exact absurd rfl hqk
  obtain ⟨h1, h2, h3⟩ := ren_MR (β' := fun q => if q = key then β k else if q = k then none else β q) hm (ρ := fun q => if q = k then some key else some q) (fun q l q' hq hq' => by
      try dsimp only at hq' ⊢
      split at hq'
      · rename_i h; subst h; cases hq'; rw [if_pos rfl]; exact hq
      · rename_i h
        cases hq'
        rw [if_neg ?_, if_neg h]
        · exact hq
        · rintro rfl; rw [hbk] at hq; cases hq) (fun q l hl => by
      try dsimp only at hl ⊢
      split at hl
      · rename_i h; exact ⟨k, by simp [h], hl⟩
      · split at hl
        · cases hl
        · rename_i h; exact ⟨q, by simp [h], hl⟩) (fun x y q hx hy h h' => by
      have hnx : x ≠ key := by rintro rfl; obtain ⟨o, ho⟩ := names_get.1 hx; rw [hkey] at ho; cases ho
      have hny : y ≠ key := by rintro rfl; obtain ⟨o, ho⟩ := names_get.1 hy; rw [hkey] at ho; cases ho
      try dsimp only at h h'
      split at h <;> split at h' <;> simp_all)
  have hF1 : FR w ((Loc.away (fun q => if q = key then β k else if q = k then none else β q)) Z) (fun q => if q = key then β k else if q = k then none else β q) (SV.ren.renL (fun q => if q = k then some key else some q) st.tmps) a :=
    ⟨by rw [renL_length]; exact hF.len, fun i => by rw [renL_getD]; exact h3 _ _ (hF.val i), hF.defers⟩
  unfold moveName
  cases hlow : decide (k < 500) with
  | false =>
    refine ⟨_, ⟨rfl, rfl, rfl, Nat.le_refl _, fun _ _ _ => rfl, fun b hb => .inl (h2 b hb), fun q l hq hl => ⟨l, ?_, .refl l⟩⟩, hF1, h1⟩
    have hk : ¬ k < 500 := by simpa using hlow
    try dsimp only
    rw [if_neg (by omega), if_neg (by omega)]
    exact hl
  | true =>
    have hk : k < 500 := by simpa using hlow
    obtain ⟨g1, g2, g3⟩ := gone_sound hF1 h1 (k := k) (by simp [hne])
    refine ⟨_, ⟨rfl, rfl, rfl, Nat.le_refl _, fun _ _ _ => rfl, fun b hb => (g1.own b hb).imp (h2 b) id, fun q l hq hl => ?_⟩, g2, g3⟩
    simp only [Loc.put]
    by_cases hqk : q = k
    · subst hqk
      rw [if_pos rfl]
      -- what had the name is gone
      cases hl0 : l with
      | box b => exact (hbox b (by rw [hl, hl0])).elim
      | _ => exact ⟨.gone, rfl, .gone _ (by intro b h; cases h)⟩
    · rw [if_neg hqk, if_neg (by omega), if_neg hqk]
      exact ⟨l, hl, .refl l⟩

theorem box_le {b : Nat} {l : LK} (h : (LK.box b).le l) : l = .box b := by
  cases h with
  | refl => rfl
  | gone _ hb => exact (hb b rfl).elim

def AccAt.isAt (a : AccAt) (q : Nat) : Bool :=
  match a with
  | .slot _ => false
  | .cell k _ => q == k

/-- Another word for the same value, at one place. -/
theorem put_sound {st : St} {m1 : Mem} {at_ : AccAt} {x y : SV} (hget : at_.get st = x) (hne : x ≠ .dead) (hs : Step w w β β') (hF : FR w (β.away Z) β st.tmps a) (hm : MR w Z β st.mem) (hm1 : MR w Z β' m1)
    (hsame : ∀ q cs, st.mem.get q = some (.cells cs) → m1.get q = some (.cells cs)) (hxy : ∀ v, x.R w (β.away Z) β v → y.R w (β'.away Z) β' v) :
    FR w (β'.away Z) β' (at_.put y st).tmps a ∧ ∀ m2 : Mem, (∀ q, m2.get q = (if at_.isAt q = true then (at_.put y st).mem.get q else m1.get q)) → MR w Z β' m2 := by
  cases at_ with
  | slot t =>
    simp only [AccAt.get] at hget
    simp only [AccAt.put]
    refine ⟨⟨by simpa using hF.len, fun i => ?_, hF.defers⟩, fun m2 h2 => hm1.congr fun q => by simpa [AccAt.isAt] using h2 q⟩
    by_cases hi : t = i
    · subst hi
      have hv := hF.val t
      rw [hget] at hv
      simp only [List.getD, List.getElem?_set, if_true]
      split
      · exact hxy _ hv
      · trivial
    · simp only [List.getD, List.getElem?_set_ne hi]
      exact SV.R_step hs.stays hs.le _ _ (hF.val i)
  | cell k off =>
    simp only [AccAt.get] at hget
    simp only [AccAt.put]
    cases hk : st.mem.get k with
    | none => rw [hk] at hget; exact (hne hget.symm).elim
    | some o =>
      rw [hk] at hget
      cases o with
      | cells cs =>
        dsimp only at hget ⊢
        refine ⟨⟨hF.len, fun i => SV.R_step hs.stays hs.le _ _ (hF.val i), hF.defers⟩, fun m2 h2 => ?_⟩
        have h1k := hsame k cs hk
        have h2k : m2.get k = some (.cells (cs.set off y)) := by
          rw [h2 k, if_pos (by simp [AccAt.isAt]), Mem.get_set, if_pos rfl]
        refine hm1.update (fun q => q = k) (Step.refl w _) (fun q hq => ⟨rfl, by rw [h2 q, if_neg (by simpa [AccAt.isAt] using hq)]⟩) (fun _ _ _ _ _ _ => rfl) (fun q o hq hg => ?_) (fun q l hq hl => ?_) (fun q l b hq hl hb => ?_)
        · subst hq
          rw [h2k] at hg
          cases hg
          obtain ⟨l0, hl0, hob0⟩ := hm.obs q _ hk
          obtain ⟨l, hl, hob⟩ := hm1.obs q _ h1k
          cases l0 with
          | box b0 =>
            obtain ⟨l', hl', hle⟩ := hs.le q _ hl0
            rw [hl] at hl'
            cases hl'
            rw [box_le hle] at hl hob
            obtain ⟨vs0, t0, hh0, hrl0, _⟩ := hob0
            obtain ⟨vs, t, hh, hrl, h1⟩ := hob
            rw [hh] at hh0
            cases hh0
            refine ⟨_, hl, _, _, hh, SV.RL_of_get _ _ ?_ fun i x' v hx hv => ?_, h1⟩
            · rw [List.length_set]; exact SV.RL_len _ _ hrl
            · rw [List.getElem?_set] at hx
              split at hx
              · rename_i hoi
                subst hoi
                split at hx
                · rename_i hlt
                  cases hx
                  obtain ⟨u, hu, hr⟩ := SV.RL_get _ _ hrl0 off cs[off] (List.getElem?_eq_getElem hlt)
                  rw [hv] at hu
                  cases hu
                  have : cs[off] = x := by simpa [List.getD, List.getElem?_eq_getElem hlt] using hget
                  rw [this] at hr
                  exact hxy _ hr
                · cases hx
              · obtain ⟨u, hu, hr⟩ := SV.RL_get _ _ hrl i x' hx
                rw [hv] at hu
                cases hu
                exact hr
          | _ => exact hob0.elim
        · subst hq
          exact ⟨_, h2k⟩
        · exact ⟨hm1.apart b ⟨q, l, hl, hb⟩, fun k' l' hk' hb' => hm1.inj k' q l' l b hk' hl hb' hb⟩
      | _ => exact (hne hget.symm).elim

theorem put_mem (at_ : AccAt) (y : SV) (st : St) (q : Nat) (h : ∀ k off, at_ = .cell k off → q ≠ k) : (at_.put y st).mem.get q = st.mem.get q := by
  cases at_ with
  | slot t => rfl
  | cell k off =>
    simp only [AccAt.put]
    split
    · rw [Mem.get_set, if_neg (h k off rfl)]
    · rfl

theorem nils_sound {st : St} (hF : FR w (β.away Z) β st.tmps a) (hm : MR w Z β st.mem) {at_ : AccAt} {key : Nat} {e : TypeId} {r : Row} (hn : at_.get st = .nils) (hkey : st.mem.get key = none) (h0 : 0 < r.size) :
    ∃ β', WStep w w β β' ∧ FR w (β'.away Z) β' (at_.put (.slw key) st).tmps a ∧ MR w Z β' ((at_.put (.slw key) st).mem.set key (.row e r [])) := by
  have hbk := hm.none hkey
  have hs : Step w w β (β.put key (.row none 0 0 r.size e)) := ⟨rfl, rfl, rfl, Nat.le_refl _, fun _ _ _ => rfl, fun b hb => by
    obtain ⟨q, l, hq, ho⟩ := hb
    simp only [Loc.put] at hq
    split at hq
    · cases hq; cases ho
    · exact .inl ⟨q, l, hq, ho⟩, fun q l hq => ⟨l, by
    simp only [Loc.put]
    rw [if_neg (fun e => by rw [e, hbk] at hq; cases hq)]
    exact hq, .refl l⟩⟩
  have hob : ObR w ((β.put key (.row none 0 0 r.size e)).away Z) (β.put key (.row none 0 0 r.size e)) (.row none 0 0 r.size e) (.row e r []) :=
    ⟨rfl, rfl, h0, rfl, [], ⟨by simp, .inl ⟨rfl, rfl⟩⟩, fun j hj => absurd hj (by simp)⟩
  have hm1 : MR w Z (β.put key (.row none 0 0 r.size e)) (st.mem.set key (.row e r [])) := by
    refine hm.update (fun q => q = key) hs (fun q hq => ⟨by simp [Loc.put, hq], by rw [Mem.get_set, if_neg hq]⟩) (fun _ _ _ _ _ _ => rfl) (fun q o hq hg => ?_) (fun q l hq hl => ?_) (fun q l b hq hl hb => ?_)
    · subst hq
      rw [Mem.get_set, if_pos rfl] at hg
      cases hg
      exact ⟨_, by simp [Loc.put], hob⟩
    · subst hq
      exact ⟨_, by rw [Mem.get_set, if_pos rfl]⟩
    · subst hq
      simp [Loc.put] at hl
      subst hl
      cases hb
  have hcell : ∀ q cs, st.mem.get q = some (.cells cs) → q ≠ key := by
    rintro q cs hq rfl
    rw [hkey] at hq
    cases hq
  obtain ⟨h1, h2⟩ := put_sound (at_ := at_) (y := .slw key) hn (by intro h; cases h) hs hF hm hm1 (fun q cs hq => by rw [Mem.get_set, if_neg (hcell q cs hq)]; exact hq) (fun v hv => by
    simp only [SV.R] at hv ⊢
    subst hv
    exact ⟨.row none 0 0 r.size e, by simp [Loc.put], none, 0, rfl, Nat.le_refl _, Nat.le_refl _, rfl, fun _ => rfl⟩)
  refine ⟨_, hs.weak, h1, h2 _ fun q => ?_⟩
  rw [Mem.get_set]
  by_cases hq : q = key
  · rw [if_pos hq]
    split
    · rename_i hc
      cases at_ with
      | slot t => simp [AccAt.isAt] at hc
      | cell k off =>
        simp [AccAt.isAt] at hc
        subst hc
        simp only [AccAt.get] at hn
        rw [hq, hkey] at hn
        cases hn
    · rw [Mem.get_set, if_pos hq]
  · rw [if_neg hq]
    split
    · rfl
    · rename_i hc
      rw [Mem.get_set, if_neg hq]
      exact put_mem _ _ _ _ (fun k off hk => by subst hk; simpa [AccAt.isAt] using hc)

theorem cutDown_sound {st : St} (hF : FR w (β.away Z) β st.tmps a) (hm : MR w Z β st.mem) {at_ : AccAt} {k key len : Nat} {e : TypeId} {r : Row} {xs : List r.T} (hn : at_.get st = .sl k 0 len) (hk : st.mem.get k = some (.row e r xs)) (hkey : st.mem.get key = none)
    (hhigh : 500 ≤ key) (hle : len ≤ xs.length) :
    ∃ β', WStep w w β β' ∧ FR w (β'.away Z) β' (cutDown at_ k key (.row e r (xs.take len)) st).tmps a ∧ MR w Z β' (cutDown at_ k key (.row e r (xs.take len)) st).mem := by
  have hbk := hm.none hkey
  have hkk : k ≠ key := by rintro rfl; rw [hkey] at hk; cases hk
  obtain ⟨l, hl, hob⟩ := hm.obs k _ hk
  cases l with
  | row ad cap n sz e' =>
    obtain ⟨he, hsz, h0, hn', cells, ho, hr⟩ := hob
    subst he hsz hn'
    have hs : Step w w β ((β.put k .gone).put key (.row ad cap len r.size e')) := ⟨rfl, rfl, rfl, Nat.le_refl _, fun _ _ _ => rfl, fun b hb => by
      obtain ⟨q, l, hq, ho⟩ := hb
      simp only [Loc.put] at hq
      split at hq
      · cases hq; exact .inl ⟨k, _, hl, ho⟩
      · split at hq
        · cases hq; cases ho
        · exact .inl ⟨q, l, hq, ho⟩, fun q l hq => by
      simp only [Loc.put]
      rw [if_neg (fun e => by rw [e, hbk] at hq; cases hq)]
      by_cases hqk : q = k
      · subst hqk
        rw [hl] at hq
        cases hq
        exact ⟨.gone, by rw [if_pos rfl], .gone _ (by intro b h; cases h)⟩
      · exact ⟨l, by rw [if_neg hqk]; exact hq, .refl l⟩⟩
    have hm1 : MR w Z ((β.put k .gone).put key (.row ad cap len r.size e')) ((st.mem.set k .gone).set key (.row e' r (xs.take len))) := by
      refine hm.update (fun q => q = k ∨ q = key) hs (fun q hq => ?_) (fun _ _ _ _ _ _ => rfl) (fun q o hq hg => ?_) (fun q l hq hl' => ?_) (fun q l b hq hl' hb => ?_)
      · rw [not_or] at hq
        exact ⟨by simp [Loc.put, hq.1, hq.2], by rw [Mem.get_set, if_neg hq.2, Mem.get_set, if_neg hq.1]⟩
      · rw [Mem.get_set] at hg
        split at hg
        · rename_i hqk
          subst hqk
          cases hg
          refine ⟨.row ad cap len r.size e', by simp [Loc.put], rfl, rfl, h0, by simp; omega, cells.take (len * r.size), ownsRow_take ho hle, (hr.stays hs.stays).take len⟩
        · rename_i hqk
          have hq := hq.resolve_right hqk
          subst hq
          rw [Mem.get_set, if_pos rfl] at hg
          cases hg
          exact ⟨.gone, by simp [Loc.put, hqk], trivial⟩
      · rw [Mem.get_set]
        split
        · exact ⟨_, rfl⟩
        · rename_i hqk
          rw [Mem.get_set, if_pos (hq.resolve_right hqk)]
          exact ⟨_, rfl⟩
      · simp only [Loc.put] at hl'
        split at hl'
        · rename_i hqk
          subst hqk
          cases hl'
          refine ⟨hm.apart b ⟨k, _, hl, hb⟩, fun k' l' hk' hb' => ?_⟩
          simp only [Loc.put] at hk'
          split at hk'
          · assumption
          · split at hk'
            · cases hk'; cases hb'
            · rename_i h1 h2
              exact absurd (hm.inj k' k l' _ b hk' hl hb' hb) h2
        · split at hl'
          · cases hl'; cases hb
          · rename_i h1 h2
            exact absurd hq (by simp [h1, h2])
    have hcell : ∀ q cs, st.mem.get q = some (.cells cs) → q ≠ key ∧ q ≠ k := by
      intro q cs hq
      refine ⟨?_, ?_⟩
      · rintro rfl; rw [hkey] at hq; cases hq
      · rintro rfl; rw [hk] at hq; cases hq
    obtain ⟨h1, h2⟩ := put_sound (at_ := at_) (y := .slw key) hn (by intro h; cases h) hs hF hm hm1 (fun q cs hq => by rw [Mem.get_set, if_neg (hcell q cs hq).1, Mem.get_set, if_neg (hcell q cs hq).2]; exact hq) (fun v hv => by
      simp only [SV.R] at hv ⊢
      obtain ⟨l, hl2, hp⟩ := hv
      rw [hl] at hl2
      cases hl2
      refine ⟨.row ad cap len r.size e', by simp [Loc.put], ?_⟩
      obtain ⟨A', c, hv, hlc, hoff, hcap, ha⟩ := hp
      exact ⟨A', c, hv, hlc, by omega, hcap, ha⟩)
    refine ⟨_, hs.weak, h1, h2 _ fun q => ?_⟩
    have hat : ∀ kk off, at_ = .cell kk off → kk ≠ key ∧ kk ≠ k := by
      intro kk off hc
      subst hc
      simp only [AccAt.get] at hn
      cases hg : st.mem.get kk with
      | none => rw [hg] at hn; cases hn
      | some o =>
        rw [hg] at hn
        cases o with
        | cells cs => exact hcell kk cs hg
        | _ => cases hn
    simp only [cutDown]
    rw [Mem.get_set, Mem.get_set]
    split
    · rename_i hq
      split
      · rename_i hc
        cases at_ with
        | slot t => simp [AccAt.isAt] at hc
        | cell kk off => simp [AccAt.isAt] at hc; exact absurd (hc.symm.trans hq) (hat kk off rfl).1
      · rw [Mem.get_set, if_pos hq]
    · rename_i hq
      split
      · rename_i hqk
        split
        · rename_i hc
          cases at_ with
          | slot t => simp [AccAt.isAt] at hc
          | cell kk off => simp [AccAt.isAt] at hc; exact absurd (hc.symm.trans hqk) (hat kk off rfl).2
        · rw [Mem.get_set, if_neg hq, Mem.get_set, if_pos hqk]
      · rename_i hqk
        split
        · rfl
        · rename_i hc
          rw [Mem.get_set, if_neg hq, Mem.get_set, if_neg hqk]
          exact put_mem _ _ _ _ (fun kk off hk => by subst hk; simpa [AccAt.isAt] using hc)
  | _ => exact hob.elim

theorem get_R {st : St} (hF : FR w (β.away Z) β st.tmps a) (hm : MR w Z β st.mem) (at_ : AccAt) : ∃ v, (at_.get st).R w (β.away Z) β v := by
  cases at_ with
  | slot t => exact ⟨_, hF.val t⟩
  | cell k off =>
    simp only [AccAt.get]
    cases hk : st.mem.get k with
    | none => exact ⟨undef, trivial⟩
    | some o =>
      cases o with
      | cells cs =>
        obtain ⟨l, hl, hob⟩ := hm.obs k _ hk
        cases l with
        | box b =>
          obtain ⟨vs, t, hh, hrl, h1⟩ := hob
          dsimp only
          cases hc : cs[off]? with
          | none => exact ⟨undef, by simp [List.getD, hc, SV.R]⟩
          | some x =>
            obtain ⟨u, hu, hr⟩ := SV.RL_get _ _ hrl off x hc
            exact ⟨u, by simpa [List.getD, hc] using hr⟩
        | _ => exact hob.elim
      | _ => exact ⟨undef, trivial⟩

theorem rehome_sound : ∀ (l : List (AccAt × Nat × TypeId × Row)) {β : Loc} {st st' : St}, rehome l st = some st' → FR w (β.away Z) β st.tmps a → MR w Z β st.mem →
    ∃ β', WStep w w β β' ∧ FR w (β'.away Z) β' st'.tmps a ∧ MR w Z β' st'.mem
  | [], β, st, st', h, hF, hm => by cases h; exact ⟨β, WStep.refl w β, hF, hm⟩
  | (t, key, e, r) :: l, β, st, st', h, hF, hm => by
    simp only [rehome] at h
    split at h
    · rename_i hn
      split at h
      · rename_i hc
        obtain ⟨hk, hh, h0⟩ := hc
        obtain ⟨β1, s1, f1, m1⟩ := nils_sound (e := e) hF hm hn (by simpa using hk) h0
        obtain ⟨β2, s2, f2, m2⟩ := rehome_sound l (st := { tmps := (t.put (.slw key) st).tmps, mem := (t.put (.slw key) st).mem.set key (.row e r []) }) h f1 m1
        exact ⟨β2, s1.trans s2, f2, m2⟩
      · cases h
    · rename_i k off len hn
      split at h
      · rename_i e' r' xs hg
        split at h
        · rename_i hc
          obtain ⟨rfl, hne, hk, hh⟩ := hc
          obtain ⟨hle, h⟩ := chk_some h
          obtain ⟨β1, s1, f1, m1⟩ := cutDown_sound hF hm hn hg (by simpa using hk) hh (by simpa using hle)
          obtain ⟨β2, s2, f2, m2⟩ := rehome_sound l h f1 m1
          exact ⟨β2, s1.trans s2, f2, m2⟩
        · cases h
      · cases h
    · rename_i k hn
      split at h
      · exact rehome_sound l h hF hm
      · rename_i hne
        split at h
        · rename_i hc
          obtain ⟨hk, hh⟩ := hc
          obtain ⟨v, hv⟩ := get_R hF hm t
          rw [hn] at hv
          simp only [SV.R] at hv
          obtain ⟨lk, hlk, hp⟩ := hv
          obtain ⟨β1, s1, f1, m1⟩ := move_sound hF hm (by simpa using hk) hh hne (fun b hb => by
            rw [hlk] at hb
            cases hb
            exact hp)
          obtain ⟨β2, s2, f2, m2⟩ := rehome_sound l h f1 m1
          exact ⟨β2, s1.trans s2, f2, m2⟩
        · cases h
    · cases h

theorem keepLive_getD (live : List Nat) : ∀ (l : List SV) (k i : Nat), (keepLive live k l).getD i .dead = if live.contains (k + i) then l.getD i .dead else .dead
  | [], k, i => by simp [keepLive]
  | x :: l, k, 0 => by simp [keepLive]
  | x :: l, k, i + 1 => by
    have := keepLive_getD live l (k + 1) i
    rw [show k + 1 + i = k + (i + 1) by omega] at this
    simpa [keepLive] using this

theorem keepLive_length (live : List Nat) : ∀ (l : List SV) (k : Nat), (keepLive live k l).length = l.length
  | [], k => rfl
  | x :: l, k => by simp [keepLive, keepLive_length live l]

theorem mem_insKey {k q : Nat} : ∀ {l : List Nat}, q ∈ insKey k l ↔ q = k ∨ q ∈ l
  | [] => by simp [insKey]
  | x :: l => by
    simp only [insKey]
    split
    · simp
    · split
      · rename_i h; subst h; simp
      · simp only [List.mem_cons, mem_insKey]
        constructor
        · rintro (h | h | h)
          · exact .inr (.inl h)
          · exact .inl h
          · exact .inr (.inr h)
        · rintro (h | h | h)
          · exact .inr (.inl h)
          · exact .inl h
          · exact .inr (.inr h)

theorem mem_sortKeys {q : Nat} : ∀ {l : List Nat}, q ∈ sortKeys l ↔ q ∈ l
  | [] => by simp [sortKeys]
  | x :: l => by simp [sortKeys, mem_insKey, mem_sortKeys]

theorem get_pickMem (m : Mem) (q : Nat) : ∀ (l : List Nat), (pickMem m l).get q = if q ∈ l then m.get q else none
  | [] => by simp [pickMem, Mem.get]
  | k :: l => by
    have ih := get_pickMem m q l
    simp only [pickMem]
    by_cases hq : q = k
    · subst hq
      cases hk : m.get q with
      | none => simp only; rw [ih, hk]; simp
      | some o => simp [Mem.get]
    · cases hk : m.get k with
      | none => simp only; rw [ih]; simp [hq]
      | some o => simp only [Mem.get, if_neg hq]; rw [ih]; simp [hq]

theorem get_canon (m : Mem) (q : Nat) : (canon m).get q = m.get q := by
  unfold canon
  rw [get_pickMem]
  split
  · rfl
  · rename_i h
    cases hq : m.get q with
    | none => rfl
    | some o => exact (h (mem_sortKeys.2 (names_get.2 ⟨o, hq⟩))).elim

theorem head_sound {an : LAnn} {st st' : St} (h : headOf an st = some st') (hF : FR w (β.away Z) β st.tmps a) (hm : MR w Z β st.mem) :
    ∃ β', WStep w w β β' ∧ FR w (β'.away Z) β' st'.tmps a ∧ MR w Z β' st'.mem := by
  unfold headOf at h
  have hF1 : FR w (β.away Z) β (keepLive an.live 0 st.tmps) a := ⟨by rw [keepLive_length]; exact hF.len, fun i => by
    rw [keepLive_getD]
    split
    · exact hF.val i
    · trivial, hF.defers⟩
  obtain ⟨β1, s1, f1, m1⟩ := keep_sound hF1 hm (ρ := dropGone st.mem) (fun k q hq => by
    unfold dropGone at hq
    split at hq
    · split at hq
      · cases hq; rfl
      · cases hq
    · cases hq; rfl) (fun k l hk hl => by
    unfold dropGone
    split
    · rw [if_pos hk]
    · rfl)
  dsimp only at h
  split at h
  · rename_i st2 hst2
    cases h
    obtain ⟨β2, s2, f2, m2⟩ := rehome_sound an.acc hst2 f1 m1
    obtain ⟨β3, s3, f3, m3⟩ := keep_sound f2 m2 (ρ := stays an st2.mem) (fun k q hq => by
      unfold stays at hq
      split at hq
      · split at hq
        · cases hq; rfl
        · cases hq
      · split at hq
        · cases hq; rfl
        · split at hq
          · cases hq
          · cases hq; rfl
      · cases hq) (fun k l hk hl => by
      obtain ⟨o, ho⟩ := m2.dom k l hl
      unfold stays
      rw [ho]
      cases o <;> simp [hk] <;> omega)
    exact ⟨β3, (s1.trans s2).trans s3, f3, m3.congr (get_canon _)⟩
  · cases h

theorem mem_addNew : ∀ (l ks : List Nat) (k : Nat), k ∈ l → k ∈ addNew ks l
  | q :: l, ks, k, h => by
    simp only [addNew]
    rcases List.mem_cons.1 h with rfl | h
    · split
      · rename_i hc; exact addNew_sub l ks k (by simpa using hc)
      · exact addNew_sub l _ k (by simp)
    · split
      · exact mem_addNew l _ k h
      · exact mem_addNew l _ k h

theorem tail_sound {an : LAnn} {st : St} (hF : FR w (β.away Z) β st.tmps a) (hm : MR w Z β st.mem) :
    ∃ β', WStep w w β β' ∧ FR w (β'.away Z) β' (tailOf an st).tmps a ∧ MR w Z β' (tailOf an st).mem := by
  have hF1 : FR w (β.away Z) β (keepLive an.out 0 st.tmps) a := ⟨by rw [keepLive_length]; exact hF.len, fun i => by
    rw [keepLive_getD]
    split
    · exact hF.val i
    · trivial, hF.defers⟩
  have hgo : ∃ β', WStep w w β β' ∧ FR w (β'.away Z) β' (SV.ren.renL (fun k => if (reach st.mem 64 0 (addNew ((names st.mem).filter fun k => decide (k < 500)) (SV.refs.refsL (keepLive an.out 0 st.tmps)))).contains k then some k else none) (keepLive an.out 0 st.tmps)) a ∧
      MR w Z β' (renMem (fun k => if (reach st.mem 64 0 (addNew ((names st.mem).filter fun k => decide (k < 500)) (SV.refs.refsL (keepLive an.out 0 st.tmps)))).contains k then some k else none) st.mem) := ?_
  · obtain ⟨β', h1, h2, h3⟩ := hgo
    exact ⟨β', h1, h2, h3.congr (get_canon _)⟩
  refine keep_sound hF1 hm (fun k q hq => ?_) (fun k l hk hl => ?_)
  · try dsimp only at hq
    split at hq
    · cases hq; rfl
    · cases hq
  · try dsimp only
    rw [if_pos]
    obtain ⟨o, ho⟩ := hm.dom k l hl
    refine List.contains_iff_mem.2 (reach_sub _ _ _ _ (addNew_sub _ _ _ (List.mem_filter.2 ⟨names_get.2 ⟨o, ho⟩, by simpa using hk⟩)))
end
end Go.Proofs.Ytgfanlafbjbkaaa.S2
