/-
  S2, fifth part: each operation of the model comes to what the plain one says: those that turn no memory.
-/
import Derived.Test.YtgfanlafbjbkaaaS2d
import Derived.Laws.BytesArg
set_option linter.unusedVariables false
set_option linter.unusedSimpArgs false
namespace Go.Proofs.Ytgfanlafbjbkaaa.S2
open Go

/-- What an operation ends in. -/
def PostE (Z : Nat → Prop) (w : World) (β : Loc) (m : Mem) (e : Eff) (v : Value) (w' : World) : Prop :=
  ∃ β', Step w w' β β' ∧ MR w' Z β' (m.sets e.upd) ∧ e.val.R w' (β'.away Z) β' v

def OpOK (P : Program) (o : Oper) (a : Act) (w : World) (Post : Value → World → Prop) : Prop :=
  ∀ (next : Act → World → Prop) (Q : Exit → Act → World → Prop), (∀ v w', Post v w' → next (a.put o.dst v) w') → o.wp P a w next Q

section
variable {P : Program} {o : Oper} {a : Act} {w w' : World} {Post : Value → World → Prop}

theorem OpOK.value {v : Value} (h : (execOp a.eval o).run P w = .ok (.value v) w') (hp : Post v w') : OpOK P o a w Post := by
  intro next Q hn
  unfold Oper.wp
  rw [h]
  exact hn v w' hp

theorem OpOK.skip (h : (execOp a.eval o).run P w = .ok .skip w') (hp : Post undef w') : OpOK P o a w Post := by
  intro next Q hn
  unfold Oper.wp
  rw [h]
  exact hn undef w' hp

theorem OpOK.enter {f : FuncId} {args : Array Value} (h : (execOp a.eval o).run P w = .ok (.enter f args) w') (hp : Calls P f args w' fun e w'' => ∃ v, e = .returned v ∧ Post v w'') : OpOK P o a w Post := by
  intro next Q hn
  unfold Oper.wp
  rw [h]
  refine hp.mono ?_
  rintro e w'' ⟨v, rfl, hv⟩
  exact hn v w'' hv
end

theorem PostE.same {Z : Nat → Prop} {w : World} {β : Loc} {m : Mem} {x : SV} {fp : List Nat} {v : Value} (hm : MR w Z β m) (hx : x.R w (β.away Z) β v) : PostE Z w β m ⟨x, [], fp⟩ v w :=
  ⟨β, Step.refl w β, hm, hx⟩

/-! ### operands -/

theorem allSome_len {α β : Type} {f : α → Option β} : ∀ {l : List α} {l' : List β}, allSome f l = some l' → l'.length = l.length
  | [], l', h => by simp [allSome] at h; subst h; rfl
  | x :: l, l', h => by
    simp only [allSome] at h
    split at h
    · rename_i b bs hb hbs
      cases h
      simp [allSome_len hbs]
    · cases h

theorem allSome_get {α β : Type} {f : α → Option β} : ∀ {l : List α} {l' : List β}, allSome f l = some l' → ∀ (i : Nat) (x : α), l[i]? = some x → ∃ y, l'[i]? = some y ∧ f x = some y
  | [], l', h, i, x, hx => by simp at hx
  | z :: l, l', h, i, x, hx => by
    simp only [allSome] at h
    split at h
    · rename_i b bs hb hbs
      cases h
      cases i with
      | zero => simp at hx; subst hx; exact ⟨b, rfl, hb⟩
      | succ i => simpa using allSome_get hbs i x (by simpa using hx)
    · cases h

theorem allSome_get' {α β : Type} {f : α → Option β} : ∀ {l : List α} {l' : List β}, allSome f l = some l' → ∀ (i : Nat) (y : β), l'[i]? = some y → ∃ x, l[i]? = some x ∧ f x = some y
  | [], l', h, i, x, hx => by simp [allSome] at h; subst h; simp at hx
  | z :: l, l', h, i, x, hx => by
    simp only [allSome] at h
    split at h
    · rename_i b bs hb hbs
      cases h
      cases i with
      | zero => simp at hx; subst hx; exact ⟨z, rfl, hb⟩
      | succ i => simpa using allSome_get' hbs i x (by simpa using hx)
    · cases h

theorem constSV1_R {w : World} {A : Nat → Prop} {β : Loc} {v : Value} {c : SV} (h : constSV1 v = some c) : c.R w A β v ∧ v.oneCell' = true := by
  unfold constSV1 at h
  split at h <;> try (cases h; exact ⟨rfl, rfl⟩)
  · split at h
    · rename_i hf
      cases h
      refine ⟨?_, rfl⟩
      simp only [SV.R, SV.RL]
      refine ⟨[], ?_, rfl⟩
      obtain ⟨h1, h2⟩ := hf
      rw [Array.isEmpty_iff] at h1 h2
      rw [h1, h2]
    · cases h
  · cases h

theorem constSVs_R {w : World} {A : Nat → Prop} {β : Loc} {vs : List Value} {cs : List SV} (h : allSome constSV1 vs = some cs) : SV.RL w A β cs vs ∧ ∀ u ∈ vs, u.oneCell' = true := by
  refine ⟨SV.RL_of_get cs vs (allSome_len h).symm fun i x v hx hv => ?_, fun u hu => ?_⟩
  · obtain ⟨y, hy, hf⟩ := allSome_get h i v hv
    rw [hx] at hy
    cases hy
    exact (constSV1_R hf).1
  · obtain ⟨i, hi⟩ := List.getElem?_of_mem hu
    obtain ⟨y, hy, hf⟩ := allSome_get h i u hi
    exact (constSV1_R (w := w) (A := A) (β := β) hf).2

theorem constSV_R {w : World} {A : Nat → Prop} {β : Loc} {v : Value} {c : SV} (h : constSV v = some c) : c.R w A β v := by
  unfold constSV at h
  split at h
  · split at h
    · rename_i hl
      cases h
      obtain ⟨h1, h2⟩ := constSVs_R (w := w) (A := A) (β := β) hl
      simp only [SV.R]
      exact ⟨_, by simp, h1, h2⟩
    · cases h
  · exact (constSV1_R h).1

/-- The slots are what the plain frame says. -/
def TR (w : World) (A : Nat → Prop) (β : Loc) (ts : List SV) (a : Act) : Prop := ∀ i, (ts.getD i .dead).R w A β (a.tmps.getD i undef)

theorem opd_R {w : World} {A : Nat → Prop} {β : Loc} {ts : List SV} {a : Act} (ht : TR w A β ts a) {x : Operand} {y : Opd} (h : compOpd x = some y) : (y.ev ts).R w A β (a.eval x) := by
  unfold compOpd at h
  split at h
  · cases h; exact ht _
  · split at h
    · rename_i v c hc; cases h; exact constSV_R hc
    · cases h
  · cases h; simp only [Opd.ev, SV.R, SV.RL]; exact ⟨[], rfl, rfl⟩
  · cases h

theorem opds_R {w : World} {A : Nat → Prop} {β : Loc} {ts : List SV} {a : Act} (ht : TR w A β ts a) {xs : List Operand} {ys : List Opd} (h : allSome compOpd xs = some ys) :
    SV.RL w A β (ys.map (·.ev ts)) (xs.map a.eval) := by
  refine SV.RL_of_get _ _ (by simp [allSome_len h]) fun i x v hx hv => ?_
  simp only [List.getElem?_map, Option.map_eq_some_iff] at hx hv
  obtain ⟨y, hy, rfl⟩ := hx
  obtain ⟨z, hz, rfl⟩ := hv
  obtain ⟨y', hy', hf⟩ := allSome_get h i z hz
  rw [hy] at hy'
  cases hy'
  exact opd_R ht hf

/-! ### types -/

section
variable {P : Program}

theorem isAggT_run {t : TypeId} {b : Bool} (h : isAggT P t = some b) (w : World) : (isAgg t).run P w = .ok b w := by
  unfold isAggT at h
  simp only [isAgg, Sem.run_bind]
  split at h
  · rename_i fs hu; cases h; simp [run_underlying hu]
  · rename_i n e hu; cases h; simp [run_underlying hu]
  · rename_i d hs ha hu
    cases h
    rw [run_underlying hu]
    simp only [Result.andThen_ok]
    rfl
  · cases h

theorem sizeOf_run {t : TypeId} {i : TypeInfo} (h : P.info? t = some i) (w : World) : (sizeOf t).run P w = .ok i.size w := by
  simp [sizeOf, typeInfo, h]

theorem sizeT_some {t : TypeId} {n : Nat} (h : sizeT P t = some (some n)) : ∃ i, P.info? t = some i ∧ i.size = n ∧ isAggT P t = some true := by
  unfold sizeT at h
  split at h
  · rename_i i hi ha; cases h; exact ⟨i, hi, rfl, ha⟩
  · cases h
  · cases h

theorem sizeT_none {t : TypeId} (h : sizeT P t = some none) : isAggT P t = some false := by
  unfold sizeT at h
  split at h
  · cases h
  · assumption
  · cases h

theorem cellsOf_info {t : TypeId} {i : TypeInfo} (h : P.info? t = some i) : P.cellsOf t = i.size := by simp [Program.cellsOf, h]
end

/-! ### reading memory -/

theorem Ob.part_cell {ob : Ob} {i fo n : Nat} {l : List SV} (h : ob.part i fo n = some l) : l.length = n ∧ ∀ j, j < n → ob.cell i (fo + j) = l[j]? := by
  cases ob with
  | cells cs =>
    simp only [Ob.part] at h
    split at h
    · cases h
      refine ⟨by simp; omega, fun j hj => ?_⟩
      simp [Ob.cell, List.getElem?_take, hj, Nat.add_assoc]
    · cases h
  | row e r xs =>
    simp only [Ob.part] at h
    split at h
    · cases h
      refine ⟨by simp [Row.svs_len]; omega, fun j hj => ?_⟩
      simp [Ob.cell, List.getElem?_take, hj]
    · cases h
  | froz e r xs =>
    simp only [Ob.part] at h
    split at h
    · cases h
      refine ⟨by simp [Row.svs_len]; omega, fun j hj => ?_⟩
      simp [Ob.cell, List.getElem?_take, hj]
    · cases h
  | gone => cases h

theorem getD_get {α : Type} (xs : List α) (i : Nat) (h : i < xs.length) (d : α) : xs.getD i d = xs.get ⟨i, h⟩ := by
  simp [List.getD, List.getElem?_eq_getElem h]

theorem pure_cell {w : World} {A : Nat → Prop} {β : Loc} {r : Row} {x : r.T} {cs : List Value} (hR : r.R w A x cs) {fo : Nat} {sv : SV} (hs : (r.svs x)[fo]? = some sv) : ∃ u, cs[fo]? = some u ∧ sv.R w A β u ∧ u.oneCell' = true := by
  obtain ⟨u, hu, hr⟩ := SV.RL_get _ _ (Row.R_svs (β := β) r x cs hR) fo sv hs
  exact ⟨u, hu, hr, (Row.R_len r x cs hR).2 u (List.mem_of_getElem? hu)⟩

/-- A cell of an object, in the world. -/
theorem ob_cell {w : World} {A : Nat → Prop} {β : Loc} {l : LK} {ob : Ob} (h : ObR w A β l ob) {i fo : Nat} {v : Value} (ha : l.addr i fo v) :
    (∃ ad, v = .pointer (some ad) ∧ ∀ j sv, ob.cell i (fo + j) = some sv → ∃ u, w.cell? (ad.add j) = some u ∧ sv.R w A β u ∧ u.oneCell' = true) := by
  cases l with
  | box b =>
    cases ob with
    | cells cs =>
      obtain ⟨vs, t, hh, hl, h1⟩ := h
      refine ⟨_, ha, fun j sv hs => ?_⟩
      simp only [Ob.cell] at hs
      obtain ⟨u, hu, hr⟩ := SV.RL_get _ _ hl _ _ hs
      refine ⟨u, ?_, hr, h1 u (List.mem_of_getElem? hu)⟩
      rw [add_mk, cell_of_row w b _ vs t (0, 0) hh]
      simpa [Nat.add_assoc] using hu
    | _ => exact h.elim
  | row ad cap n sz e =>
    cases ob with
    | row e' r xs =>
      obtain ⟨he, hsz, h0, hn, cells, ho, hr⟩ := h
      cases ad with
      | none => exact ha.elim
      | some g =>
        obtain ⟨hi, hv⟩ := ha
        subst hsz hn
        refine ⟨_, hv, fun j sv hs => ?_⟩
        simp only [Ob.cell] at hs
        rw [getD_get xs i hi] at hs
        obtain ⟨u, hu, hru, h1⟩ := pure_cell (β := β) (hr i hi) hs
        refine ⟨u, ?_, hru, h1⟩
        rw [List.getElem?_take] at hu
        split at hu
        · rw [List.getElem?_drop] at hu
          have := ho.cells (g := g) (by simp [Value.ownBlock, atG]) _ _ hu
          rw [add_mk] at this ⊢
          simpa [Nat.add_assoc] using this
        · cases hu
    | _ => exact h.elim
  | froz ad cap n sz e =>
    cases ob with
    | froz e' r xs =>
      obtain ⟨he, hsz, hn, hr⟩ := h
      cases ad with
      | none => exact ha.elim
      | some g =>
        obtain ⟨hi, hv⟩ := ha
        subst hsz hn
        refine ⟨_, hv, fun j sv hs => ?_⟩
        simp only [Ob.cell] at hs
        rw [getD_get xs i hi] at hs
        simp only [Prim.R] at hr
        obtain ⟨ad, cap', he', _, hx⟩ := hr
        obtain ⟨a, cs, had, _, _, hl, hc, hR⟩ := hx i hi
        subst had
        simp [atG] at he'
        obtain ⟨e1, _⟩ := he'
        subst e1
        obtain ⟨u, hu, hru, h1⟩ := pure_cell (β := β) hR hs
        refine ⟨u, ?_, hru, h1⟩
        have := hc _ _ hu
        rw [add_mk] at this ⊢
        simpa [Nat.add_assoc] using this
    | _ => exact h.elim
  | gone =>
    cases ob with
    | gone =>
      obtain ⟨A', hv⟩ := ha
      refine ⟨A', hv, fun j sv hs => ?_⟩
      simp [Ob.cell] at hs
    | _ => exact h.elim

theorem choose_list {α : Type} {p : Nat → α → Prop} : ∀ (n : Nat), (∀ j, j < n → ∃ u, p j u) → ∃ us : List α, us.length = n ∧ ∀ (j : Nat) u, us[j]? = some u → p j u
  | 0, _ => ⟨[], rfl, fun j u h => by simp at h⟩
  | n + 1, h => by
    obtain ⟨us, hl, hu⟩ := choose_list n fun j hj => h j (by omega)
    obtain ⟨u, hp⟩ := h n (by omega)
    refine ⟨us ++ [u], by simp [hl], fun j u' hj => ?_⟩
    rw [List.getElem?_append] at hj
    split at hj
    · exact hu j u' hj
    · have : j = n := by
        by_cases hjn : j - us.length = 0
        · omega
        · rw [List.getElem?_eq_none (by simp; omega)] at hj; cases hj
      subst this
      simp [hl] at hj
      exact hj ▸ hp

theorem run_loadVar_agg {P : Program} {w : World} {t : TypeId} {n : Nat} (h : sizeT P t = some (some n)) {ad : Addr} {us : List Value} (hl : us.length = n) (hc : ∀ (j : Nat) u, us[j]? = some u → w.cell? (ad.add j) = some u) :
    (loadVar t ad).run P w = .ok (.agg us.toArray) w := by
  obtain ⟨i, hi, hs, ha⟩ := sizeT_some h
  have := run_loadCells_list (P := P) w ad us hc
  simp only [loadVar, Sem.run_bind, isAggT_run ha, Result.andThen_ok, if_true, sizeOf_run hi, hs, ← hl, this, Sem.run_pure]

theorem run_loadVar_one {P : Program} {w : World} {t : TypeId} (h : sizeT P t = some none) {ad : Addr} {u : Value} (hc : w.cell? ad = some u) :
    (loadVar t ad).run P w = .ok u w := by
  simp [loadVar, isAggT_run (sizeT_none h), hc]

theorem loadx_sound {P : Program} {w : World} {Z : Nat → Prop} {β : Loc} {m : Mem} (hm : MR w Z β m) {n : Option Nat} {x : SV} {v : Value} (hx : x.R w (β.away Z) β v) {e : Eff} (h : loadx n x m = some e) {t : TypeId} (hn : sizeT P t = some n) :
    e.upd = [] ∧ ∃ u, (Instr.loadAt t v).run P w = .ok u w ∧ e.val.R w (β.away Z) β u := by
  obtain ⟨A, hA⟩ : ∃ A, A = β.away Z := ⟨_, rfl⟩
  have hobs : ∀ k o, m.get k = some o → ∃ l, β k = some l ∧ ObR w A β l o := by rw [hA]; exact hm.obs
  rw [← hA] at hx ⊢
  have hgo : ∀ (ob : Ob) (i fo : Nat) (ad : Addr), v = .pointer (some ad) → (∀ j sv, ob.cell i (fo + j) = some sv → ∃ u, w.cell? (ad.add j) = some u ∧ sv.R w A β u ∧ u.oneCell' = true) →
      (∀ sv, n = none → ob.cell i fo = some sv → e = ⟨sv, [], e.fp⟩ → ∃ u, (Instr.loadAt t v).run P w = .ok u w ∧ e.val.R w A β u) ∧
      (∀ k l, n = some k → ob.part i fo k = some l → e = ⟨.agg l, [], e.fp⟩ → ∃ u, (Instr.loadAt t v).run P w = .ok u w ∧ e.val.R w A β u) := by
    intro ob i fo ad hv hcells
    subst hv
    refine ⟨fun sv hn0 hsv he => ?_, fun k l hn0 hpart he => ?_⟩
    · subst hn0
      obtain ⟨u, hu, hr, _⟩ := hcells 0 sv (by simpa using hsv)
      have hu' : w.cell? ad = some u := by simpa [Addr.add] using hu
      exact ⟨u, by simp only [Instr.loadAt, Instr.sureAddr, Sem.run_bind, Sem.run_pure, Result.andThen_ok, run_loadVar_one hn hu'], by rw [he]; exact hr⟩
    · subst hn0
      obtain ⟨hl, hp⟩ := Ob.part_cell hpart
      obtain ⟨us, hul, hus⟩ := choose_list (p := fun j u => ∀ sv, l[j]? = some sv → w.cell? (ad.add j) = some u ∧ sv.R w A β u ∧ u.oneCell' = true) k fun j hj => by
        have hjl : j < l.length := by omega
        obtain ⟨u, h1, h2, h3⟩ := hcells j l[j] (by rw [hp j hj, List.getElem?_eq_getElem hjl])
        exact ⟨u, fun sv hsv => by rw [List.getElem?_eq_getElem hjl] at hsv; cases hsv; exact ⟨h1, h2, h3⟩⟩
      have hget : ∀ (j : Nat) u, us[j]? = some u → ∃ sv, l[j]? = some sv := fun j u hu => by
        have : j < us.length := (List.getElem?_eq_some_iff.1 hu).1
        exact ⟨_, List.getElem?_eq_getElem (show j < l.length by omega)⟩
      refine ⟨.agg us.toArray, ?_, ?_⟩
      · simp only [Instr.loadAt, Instr.sureAddr, Sem.run_bind, Sem.run_pure, Result.andThen_ok]
        exact run_loadVar_agg hn hul fun j u hu => by
          obtain ⟨sv, hsv⟩ := hget j u hu
          exact (hus j u hu sv hsv).1
      · rw [he]
        simp only [SV.R]
        refine ⟨us, rfl, SV.RL_of_get _ _ (by omega) fun j sv u hsv hu => (hus j u hu sv hsv).2.1, fun u hu => ?_⟩
        obtain ⟨j, hj⟩ := List.getElem?_of_mem hu
        obtain ⟨sv, hsv⟩ := hget j u hj
        exact (hus j u hj sv hsv).2.2
  unfold loadx at h
  split at h
  · rename_i k i fo
    split at h
    · rename_i ob hob
      split at h
      · rename_i sv hsv
        cases h
        simp only [SV.R] at hx
        obtain ⟨l, hl, ha⟩ := hx
        obtain ⟨l', hl', hr⟩ := hobs k ob hob
        rw [hl] at hl'; cases hl'
        obtain ⟨ad, hv, hc⟩ := ob_cell hr ha
        exact ⟨rfl, (hgo ob i fo ad hv hc).1 sv rfl hsv rfl⟩
      · cases h
    · cases h
  · rename_i k i fo n
    split at h
    · rename_i ob hob
      split at h
      · rename_i l hpart
        cases h
        simp only [SV.R] at hx
        obtain ⟨lk, hl, ha⟩ := hx
        obtain ⟨l', hl', hr⟩ := hobs k ob hob
        rw [hl] at hl'; cases hl'
        obtain ⟨ad, hv, hc⟩ := ob_cell hr ha
        exact ⟨rfl, (hgo ob i fo ad hv hc).2 n l rfl hpart rfl⟩
      · cases h
    · cases h
  · rename_i e' r xs i fo
    split at h
    · rename_i sv hsv
      cases h
      simp only [SV.R] at hx
      obtain ⟨hi, ad, cs, hv, hA, hlt, hl, hc, hR⟩ := hx
      refine ⟨rfl, (hgo (.froz e' r xs) i fo _ hv fun j sv' hs => ?_).1 sv rfl hsv rfl⟩
      simp only [Ob.cell] at hs
      rw [getD_get xs i hi] at hs
      obtain ⟨u, hu, hr, h1⟩ := pure_cell (β := β) hR hs
      exact ⟨u, by rw [add_add]; exact hc _ _ hu, hr, h1⟩
    · cases h
  · rename_i e' r xs i fo n
    split at h
    · rename_i l hpart
      cases h
      simp only [SV.R] at hx
      obtain ⟨hi, ad, cs, hv, hA, hlt, hl, hc, hR⟩ := hx
      refine ⟨rfl, (hgo (.froz e' r xs) i fo _ hv fun j sv' hs => ?_).2 n l rfl hpart rfl⟩
      simp only [Ob.cell] at hs
      rw [getD_get xs i hi] at hs
      obtain ⟨u, hu, hr, h1⟩ := pure_cell (β := β) hR hs
      exact ⟨u, by rw [add_add]; exact hc _ _ hu, hr, h1⟩
    · cases h
  · cases h
end Go.Proofs.Ytgfanlafbjbkaaa.S2
