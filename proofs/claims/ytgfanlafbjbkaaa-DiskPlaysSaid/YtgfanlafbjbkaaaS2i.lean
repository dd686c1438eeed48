/-
  S2, ninth part: the operations that make or write memory.
-/
import Derived.Test.YtgfanlafbjbkaaaS2h
set_option linter.unusedVariables false
set_option linter.unusedSimpArgs false
namespace Go.Proofs.Ytgfanlafbjbkaaa.S2
open Go

def Loc.put (β : Loc) (k : Nat) (l : LK) : Loc := fun q => if q = k then some l else β q

theorem MR.update {w w' : World} {Z : Nat → Prop} {β β' : Loc} {m m' : Mem} (hm : MR w Z β m) (U : Nat → Prop) (hs : Step w w' β β')
    (hb : ∀ k, ¬ U k → β' k = β k ∧ m'.get k = m.get k) (hc : ∀ k l b, ¬ U k → β k = some l → l.own = some b → w'.heap[b]? = w.heap[b]?)
    (hd : ∀ k o, U k → m'.get k = some o → ∃ l, β' k = some l ∧ ObR w' (β'.away Z) β' l o) (he : ∀ k l, U k → β' k = some l → ∃ o, m'.get k = some o)
    (hf : ∀ k l b, U k → β' k = some l → l.own = some b → ¬ Z b ∧ ∀ k' l', β' k' = some l' → l'.own = some b → k' = k) : MR w' Z β' m' where
  obs k o ho := by
    by_cases hu : U k
    · exact hd k o hu ho
    · obtain ⟨h1, h2⟩ := hb k hu
      rw [h2] at ho
      obtain ⟨l, hl, hr⟩ := hm.obs k o ho
      exact ⟨l, h1.trans hl, hr.kept hs.stays hs.le fun b hbb => hc k l b hu hl hbb⟩
  dom k l hl := by
    by_cases hu : U k
    · exact he k l hu hl
    · obtain ⟨h1, h2⟩ := hb k hu
      rw [h2]
      exact hm.dom k l (h1 ▸ hl)
  inj k k' l l' b hl hl' ho ho' := by
    by_cases hu : U k
    · exact ((hf k l b hu hl ho).2 k' l' hl' ho').symm
    · by_cases hu' : U k'
      · exact (hf k' l' b hu' hl' ho').2 k l hl ho
      · exact hm.inj k k' l l' b ((hb k hu).1 ▸ hl) ((hb k' hu').1 ▸ hl') ho ho'
  apart b := by
    rintro ⟨k, l, hl, ho⟩
    by_cases hu : U k
    · exact (hf k l b hu hl ho).1
    · exact hm.apart b ⟨k, l, (hb k hu).1 ▸ hl, ho⟩
  old b hz := Nat.lt_of_lt_of_le (hm.old b hz) hs.size

theorem step_new {w : World} {Z : Nat → Prop} {β : Loc} {m : Mem} (hm : MR w Z β m) {k : Nat} (hk : m.get k = none) (l : LK) (o : Obj) (hl : l.own = none ∨ l.own = some w.heap.size) : Step w (w.alloc o) β (β.put k l) where
  os := rfl
  tape := rfl
  output := rfl
  size := by simp
  block b hb _ := RowKit.Below.heap_alloc w o b hb
  own b := by
    rintro ⟨q, l', hq, ho⟩
    simp only [Loc.put] at hq
    split at hq
    · cases hq
      rcases hl with h | h
      · rw [h] at ho; cases ho
      · rw [h] at ho; cases ho; exact .inr (Nat.le_refl _)
    · exact .inl ⟨q, l', hq, ho⟩
  le q l' hq := by
    refine ⟨l', ?_, .refl l'⟩
    simp only [Loc.put]
    rw [if_neg ?_]
    · exact hq
    · rintro rfl
      rw [hm.none hk] at hq
      cases hq

/-- A new object under a new name. -/
theorem post_new {w : World} {Z : Nat → Prop} {β : Loc} {m : Mem} (hm : MR w Z β m) {k : Nat} (hk : m.get k = none) (l : LK) (o : Obj) (hl : l.own = some w.heap.size) (ob : Ob)
    (hob : ∀ A', Stays w (w.alloc o) (β.away Z) A' → ObR (w.alloc o) A' (β.put k l) l ob) : Step w (w.alloc o) β (β.put k l) ∧ MR (w.alloc o) Z (β.put k l) (m.set k ob) := by
  have hs := step_new hm hk l o (.inr hl)
  refine ⟨hs, hm.update (fun q => q = k) hs (fun q hq => ⟨by simp [Loc.put, hq], by rw [Mem.get_set, if_neg hq]⟩) (fun q l' b hq hl' hb => RowKit.Below.heap_alloc w o b ?_) (fun q ob' hq hg => ?_) (fun q l' hq hl' => ?_) (fun q l' b hq hl' hb => ?_)⟩
  · exact hm.lt ⟨q, l', hl', hb⟩
  · subst hq
    rw [Mem.get_set, if_pos rfl] at hg
    cases hg
    exact ⟨l, by simp [Loc.put], hob _ hs.stays⟩
  · subst hq
    exact ⟨ob, by rw [Mem.get_set, if_pos rfl]⟩
  · subst hq
    simp [Loc.put] at hl'
    subst hl'
    rw [hl] at hb
    cases hb
    refine ⟨fun hz => absurd (hm.old _ hz) (by omega), fun k' l'' hk' ho' => ?_⟩
    simp only [Loc.put] at hk'
    split at hk'
    · assumption
    · exact absurd (hm.lt ⟨k', l'', hk', ho'⟩) (by omega)

section
variable {P : Program} {w : World} {Z : Nat → Prop} {β : Loc} {m : Mem}

theorem cellsOf_R {x : SV} {v : Value} {A : Nat → Prop} (hx : x.R w A β v) (hs : x.cellsOk = true) : SV.RL w A β x.cellsOf v.cells.toList ∧ ∀ u ∈ v.cells.toList, u.oneCell' = true := by
  have hgo : v.oneCell' = true → x.cellsOf = [x] → SV.RL w A β x.cellsOf v.cells.toList ∧ ∀ u ∈ v.cells.toList, u.oneCell' = true := by
    intro h1 hc
    have : v.cells = #[v] := by cases v <;> first | rfl | cases h1
    rw [hc, this]
    exact ⟨⟨v, [], rfl, hx, rfl⟩, by simpa using h1⟩
  cases x with
  | agg cs =>
    simp only [SV.R] at hx
    obtain ⟨vs, rfl, hl, h1⟩ := hx
    exact ⟨by simpa [SV.cellsOf, Value.cells] using hl, by simpa [Value.cells] using h1⟩
  | dead => cases hs
  | tup => cases hs
  | int => simp only [SV.R] at hx; subst hx; exact hgo rfl rfl
  | bool => simp only [SV.R] at hx; subst hx; exact hgo rfl rfl
  | str => simp only [SV.R] at hx; subst hx; exact hgo rfl rfl
  | nils => simp only [SV.R] at hx; subst hx; exact hgo rfl rfl
  | nilp => simp only [SV.R] at hx; subst hx; exact hgo rfl rfl
  | nilf => simp only [SV.R] at hx; subst hx; exact hgo rfl rfl
  | nili => simp only [SV.R] at hx; subst hx; exact hgo rfl rfl
  | nilm => simp only [SV.R] at hx; subst hx; exact hgo rfl rfl
  | ps e r xs => simp only [SV.R, Prim.R] at hx; obtain ⟨ad, cap, rfl, _⟩ := hx; exact hgo rfl rfl
  | pptr e r xs i fo => simp only [SV.R] at hx; obtain ⟨_, a, _, rfl, _⟩ := hx; exact hgo rfl rfl
  | fn f cs => simp only [SV.R] at hx; obtain ⟨vs, rfl, _⟩ := hx; exact hgo rfl rfl
  | ptr k i fo =>
    simp only [SV.R] at hx
    obtain ⟨l, hl, ha⟩ := hx
    obtain ⟨ad, rfl⟩ := addr_some ha
    exact hgo rfl rfl
  | pe => simp only [SV.R] at hx; obtain ⟨a, cap, rfl⟩ := hx; exact hgo rfl rfl
  | slw k =>
    have : v.oneCell' = true := by
      simp only [SV.R] at hx
      obtain ⟨l, hl, hp⟩ := hx
      cases l with
      | box => exact hp.elim
      | row => obtain ⟨_, _, rfl, _⟩ := hp; rfl
      | froz => obtain ⟨_, _, rfl, _⟩ := hp; rfl
      | gone => obtain ⟨_, _, _, rfl, _⟩ := hp; rfl
    exact hgo this rfl
  | sl k off len =>
    have : v.oneCell' = true := by
      simp only [SV.R] at hx
      obtain ⟨l, hl, hp⟩ := hx
      cases l with
      | box => exact hp.elim
      | row => obtain ⟨_, _, rfl, _⟩ := hp; rfl
      | froz => obtain ⟨_, _, rfl, _⟩ := hp; rfl
      | gone => obtain ⟨_, _, rfl, _⟩ := hp; rfl
    exact hgo this rfl

theorem box_sound (hm : MR w Z β m) {k : Nat} (hk : m.get k = none) {cs : List SV} {vs : List Value} (hl : SV.RL w (β.away Z) β cs vs) (h1 : ∀ u ∈ vs, u.oneCell' = true) (t : TypeId) (fp : List Nat) :
    PostE Z w β m ⟨.ptr k 0 0, [(k, .cells cs)], fp⟩ (.pointer (some ⟨w.heap.size, 0, none⟩)) (w.alloc (.cells vs.toArray t)) := by
  obtain ⟨h2, h3⟩ := post_new hm hk (.box w.heap.size) (.cells vs.toArray t) rfl (.cells cs) fun A' hst =>
    ⟨vs.toArray, t, heap_alloc_new w _, by simpa using SV.RL_step hst (step_new hm hk (.box w.heap.size) (.cells vs.toArray t) (.inr rfl)).le cs vs hl, by simpa using h1⟩
  exact ⟨_, h2, h3, by simp only [SV.R]; exact ⟨.box w.heap.size, by simp [Loc.put], rfl⟩⟩

theorem newVar_run {t : TypeId} {v : Value} : (newVar t v).run P w = .ok ⟨w.heap.size, 0, none⟩ (w.alloc (.cells v.cells t)) := by
  simp [newVar, newRow]

theorem setRow_step {g : Nat} {cs : Array Value} (hg : β.owned g) : Step w (w.setRow g cs) β β where
  os := rfl
  tape := rfl
  output := rfl
  size := by simp [World.setRow]
  block b hb hn := setRow_other w g b cs fun e => hn (e ▸ hg)
  own b h := .inl h
  le := Loc.le_refl β

/-- A store into a box. -/
theorem store_box (hm : MR w Z β m) {k : Nat} {cs : List SV} (hk : m.get k = some (.cells cs)) {i fo n : Nat} {vp : Value} (hp : (SV.ptr k i fo).R w (β.away Z) β vp) {x : SV} {v : Value} (hx : x.R w (β.away Z) β v) (hok : x.cellsOk = true)
    (hlen : x.cellsOf.length = n) (hfit : i + fo + n ≤ cs.length) {t : TypeId} {ti : TypeInfo} (hi : P.info? t = some ti) (hsz : ti.size = n) (fp : List Nat) :
    ∃ w', (Instr.storeAt t vp v).run P w = .ok () w' ∧ PostE Z w β m ⟨.dead, [(k, .cells (cs.take (i + fo) ++ x.cellsOf ++ cs.drop (i + fo + n)))], fp⟩ undef w' := by
  simp only [SV.R] at hp
  obtain ⟨l, hl, ha⟩ := hp
  obtain ⟨l', hl', hob⟩ := hm.obs k _ hk
  rw [hl] at hl'; cases hl'
  cases l with
  | box b =>
    obtain ⟨vs, t', hh, hrl, h1⟩ := hob
    simp only [LK.addr] at ha
    subst ha
    obtain ⟨hcl, hc1⟩ := cellsOf_R hx hok
    have hvl : v.cells.toList.length = n := by rw [SV.RL_len _ _ hcl, hlen]
    have hvs : vs.toList.length = cs.length := SV.RL_len _ _ hrl
    have hrun := run_storeCells_at P b (i + fo) t' v.cells.toList 0 vs w hh (by simp at hvs ⊢; simp at hvl; omega) hc1
    rw [Nat.add_zero, hvl] at hrun
    refine ⟨w.setRow b (vs.toList.take (i + fo) ++ v.cells.toList ++ vs.toList.drop (i + fo + n)).toArray, ?_, β, setRow_step ⟨k, .box b, hl, rfl⟩, ?_, trivial⟩
    · simp only [Instr.storeAt, Instr.sureAddr, Sem.run_bind, Sem.run_pure, Result.andThen_ok, storeVar, sizeOf_run hi]
      rw [if_neg (by simp at hvl ⊢; omega), hrun]
    · have hs : Step w (w.setRow b (vs.toList.take (i + fo) ++ v.cells.toList ++ vs.toList.drop (i + fo + n)).toArray) β β := setRow_step ⟨k, .box b, hl, rfl⟩
      refine hm.update (fun q => q = k) hs (fun q hq => ⟨rfl, by simp only [Mem.sets]; rw [Mem.get_set, if_neg hq]⟩) (fun q l' b' hq hl' hb' => setRow_other w b b' _ fun e => hq (hm.inj q k l' (.box b) b hl' hl (e ▸ hb') rfl)) (fun q o hq hg => ?_) (fun q l' hq hl' => ?_) (fun q l' b' hq hl' hb' => ?_)
      · subst hq
        simp only [Mem.sets] at hg
        rw [Mem.get_set, if_pos rfl] at hg
        cases hg
        refine ⟨.box b, hl, _, t', setRow_heap w b vs _ t' (0, 0) hh, ?_, ?_⟩
        · exact SV.RL_append _ _ _ _ (SV.RL_append _ _ _ _ (SV.RL_take _ _ _ (SV.RL_step hs.stays hs.le _ _ hrl)) (SV.RL_step hs.stays hs.le _ _ hcl)) (SV.RL_drop _ _ _ (SV.RL_step hs.stays hs.le _ _ hrl))
        · intro u hu
          simp only [List.mem_append] at hu
          rcases hu with (hu | hu) | hu
          · exact h1 u (List.mem_of_mem_take hu)
          · exact hc1 u hu
          · exact h1 u (List.mem_of_mem_drop hu)
      · subst hq
        exact ⟨_, by simp only [Mem.sets]; rw [Mem.get_set, if_pos rfl]⟩
      · subst hq
        rw [hl] at hl'
        cases hl'
        exact ⟨hm.apart _ ⟨q, .box b, hl, hb'⟩, fun k' l'' h1' h2' => hm.inj k' q l'' (.box b) b' h1' hl h2' hb'⟩
  | _ => exact hob.elim
end
end Go.Proofs.Ytgfanlafbjbkaaa.S2
