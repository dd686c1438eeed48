/-
  S2, twentieth part: regions: what a run of the plain meaning says of each operation; states in which a part of the operations has run.
-/
import Derived.Test.YtgfanlafbjbkaaaS2s
import Derived.Orders
set_option linter.unusedVariables false
set_option linter.unusedSimpArgs false
namespace Go.Proofs.Ytgfanlafbjbkaaa.S2
open Go

/-- Is the operation to run, by its guard? -/
def wantedAt (ops : List Op2) (o : Op2) (st : St) (b : Bool) : Prop :=
  match o.guard with
  | none => b = true
  | some (j, want) => ∃ t, guardSlot ops j = some t ∧ ((∃ c, st.tmps.getD t .dead = .bool c ∧ b = (c == want)) ∨ (st.tmps.getD t .dead = .tup [] ∧ b = false))

def Came (cb : CB) (byRef : FuncId → CC) (ops : List Op2) (o : Op2) (st : St) : Option Eff → Prop
  | some ef => wantedAt ops o st true ∧ opx cb byRef (o.dst.getD 0) o.op st.tmps st.mem some = some ef
  | none => wantedAt ops o st false

def after1 (o : Op2) : Option Eff → St → St
  | some ef, st => apply o.dst ef st
  | none, st => skipOp o.dst st

def foldAll (sel : Nat → Bool) : Nat → List Op2 → List (Option Eff) → St → St
  | i, o :: l, e :: es, st => foldAll sel (i + 1) l es (if sel i then after1 o e st else st)
  | _, _, _, st => st

theorem set_getD : ∀ (l : List SV) (t : Nat) (c : Bool), l.getD t .dead = .bool c → l.set t (.bool c) = l
  | [], t, c, h => by simp at h
  | x :: l, 0, c, h => by simp at h; simp [h]
  | x :: l, t + 1, c, h => by
    simp only [List.set_cons_succ, List.cons.injEq, true_and]
    exact set_getD l t c (by simpa using h)

section
variable {cb : CB} {byRef : FuncId → CC} {ops : List Op2}

theorem forceL_eq {α : Type} : ∀ (l : List SV) (k : List SV → Option α), forceL l k = k l
  | [], k => rfl
  | x :: l, k => forceL_eq l fun l' => k (x :: l')

theorem forceM_eq {α : Type} : ∀ (l : Mem) (k : Mem → Option α), forceM l k = k l
  | [], k => rfl
  | (q, o) :: l, k => forceM_eq l fun l' => k ((q, o) :: l')

theorem forceSt_eq {α : Type} (st : St) (K : St → Option α) : forceSt st K = K st := by
  unfold forceSt
  rw [forceL_eq, forceM_eq]

theorem step_nat {α : Type} (hn : cb.Nat) (o : Op2) (st : St) (K : Eff → St → Option α) : step cb byRef o st K = (opx cb byRef (o.dst.getD 0) o.op st.tmps st.mem some).bind fun e => K e (apply o.dst e st) := by
  unfold step
  rw [opx_nat hn]
  congr 1
  funext e
  rw [forceSt_eq]

theorem runOps_cons {α : Type} (hn : cb.Nat) (o : Op2) (l : List Op2) (st : St) (tr : List (Option Eff)) (K : St → List (Option Eff) → Option α) (r : α) (h : runOps cb byRef ops (o :: l) st tr K = some r) :
    ∃ e, Came cb byRef ops o st e ∧ runOps cb byRef ops l (after1 o e st) (e :: tr) K = some r := by
  unfold runOps at h
  cases hg : o.guard with
  | none =>
    rw [hg] at h
    dsimp only at h
    rw [step_nat hn] at h
    obtain ⟨e, he, h⟩ := Option.bind_eq_some_iff.1 h
    exact ⟨some e, ⟨by simp [wantedAt, hg], he⟩, h⟩
  | some p =>
    obtain ⟨j, want⟩ := p
    rw [hg] at h
    dsimp only at h
    split at h
    · cases h
    · rename_i t ht
      split at h
      · rename_i b hb
        have hset : ∀ c, st.tmps.getD t .dead = .bool c → setTmp (some t) (.bool c) st = st := by
          intro c hc
          simp only [setTmp, set_getD _ _ _ hc]
        cases b <;> cases want <;> dsimp only at h <;> rw [hset _ hb] at h
        · rw [step_nat hn] at h
          obtain ⟨e, he, h⟩ := Option.bind_eq_some_iff.1 h
          exact ⟨some e, ⟨by simp only [wantedAt, hg]; exact ⟨t, ht, .inl ⟨_, hb, rfl⟩⟩, he⟩, h⟩
        · exact ⟨none, by simp only [Came, wantedAt, hg]; exact ⟨t, ht, .inl ⟨_, hb, rfl⟩⟩, h⟩
        · exact ⟨none, by simp only [Came, wantedAt, hg]; exact ⟨t, ht, .inl ⟨_, hb, rfl⟩⟩, h⟩
        · rw [step_nat hn] at h
          obtain ⟨e, he, h⟩ := Option.bind_eq_some_iff.1 h
          exact ⟨some e, ⟨by simp only [wantedAt, hg]; exact ⟨t, ht, .inl ⟨_, hb, rfl⟩⟩, he⟩, h⟩
      · rename_i vs hb
        split at h
        · exact ⟨none, by simp only [Came, wantedAt, hg]; exact ⟨t, ht, .inr ⟨hb, by first | rfl | trivial⟩⟩, h⟩
        · cases h
      · cases h

theorem step_nat' {α γ : Type} (hn : cb.Nat) (o : Op2) (st : St) (K : Eff → St → Option α) (K' : Eff → St → Option γ) (f : γ → Option α) (h : ∀ e s, K e s = (K' e s).bind f) :
    step cb byRef o st K = (step cb byRef o st K').bind f := by
  rw [step_nat hn, step_nat hn, Option.bind_assoc]
  congr 1
  funext e
  exact h ..

theorem runOps_nat {α : Type} (hn : cb.Nat) (K : St → List (Option Eff) → Option α) : ∀ (l : List Op2) (st : St) (tr : List (Option Eff)),
    runOps cb byRef ops l st tr K = (runOps cb byRef ops l st tr fun s t => some (s, t)).bind fun p => K p.1 p.2
  | [], st, tr => rfl
  | o :: l, st, tr => by
    unfold runOps
    cases o.guard with
    | none => exact step_nat' hn _ _ _ _ _ fun e s => runOps_nat hn K l _ _
    | some p =>
      obtain ⟨j, want⟩ := p
      dsimp only
      cases guardSlot ops j with
      | none => rfl
      | some t =>
        dsimp only
        cases st.tmps.getD t .dead with
        | bool b =>
          cases b <;> cases want <;> dsimp only
          · exact step_nat' hn _ _ _ _ _ fun e s => runOps_nat hn K l _ _
          · exact runOps_nat hn K l _ _
          · exact runOps_nat hn K l _ _
          · exact step_nat' hn _ _ _ _ _ fun e s => runOps_nat hn K l _ _
        | tup vs => cases vs with
          | nil => exact runOps_nat hn K l _ _
          | cons x vs => rfl
        | _ => rfl

theorem after1_len (o : Op2) (e : Option Eff) (st : St) : (after1 o e st).tmps.length = st.tmps.length := by
  cases e <;> simp only [after1, skipOp, apply] <;> cases o.dst <;> simp

theorem foldAll_len (sel : Nat → Bool) : ∀ (i : Nat) (l : List Op2) (es : List (Option Eff)) (st : St), (foldAll sel i l es st).tmps.length = st.tmps.length
  | i, [], es, st => rfl
  | i, o :: l, [], st => rfl
  | i, o :: l, e :: es, st => by
    simp only [foldAll]
    rw [foldAll_len]
    split
    · exact after1_len ..
    · rfl

/-- What a run of a region says. -/
theorem runOps_ran (hn : cb.Nat) : ∀ (l : List Op2) (i : Nat) (st : St) (tr : List (Option Eff)) (st' : St) (tr' : List (Option Eff)),
    runOps cb byRef ops l st tr (fun s t => some (s, t)) = some (st', tr') →
    ∃ es, es.length = l.length ∧ tr' = es.reverse ++ tr ∧ st' = foldAll (fun _ => true) i l es st ∧
      ∀ (k : Nat) o e, l[k]? = some o → es[k]? = some e → Came cb byRef ops o (foldAll (fun j => decide (j < i + k)) i l es st) e
  | [], i, st, tr, st', tr', h => by
    simp only [runOps, Option.some.injEq, Prod.mk.injEq] at h
    obtain ⟨rfl, rfl⟩ := h
    exact ⟨[], rfl, rfl, rfl, fun k o e ho => by simp at ho⟩
  | o :: l, i, st, tr, st', tr', h => by
    obtain ⟨e, he, h⟩ := runOps_cons hn o l st tr _ _ h
    obtain ⟨es, hl, htr, hst, hall⟩ := runOps_ran hn l (i + 1) _ _ _ _ h
    refine ⟨e :: es, by simp [hl], by simp [htr], by simp [foldAll, hst], fun k o' e' ho' he' => ?_⟩
    cases k with
    | zero =>
      simp at ho' he'
      subst ho' he'
      have hno : ∀ (l : List Op2) (i' : Nat) (es : List (Option Eff)) (s : St), i ≤ i' → foldAll (fun j => decide (j < i + 0)) i' l es s = s := by
        intro l
        induction l with
        | nil => intro i' es s _; rfl
        | cons x l ih =>
          intro i' es s hi
          cases es with
          | nil => rfl
          | cons y es =>
            simp only [foldAll]
            rw [if_neg (by simp; omega)]
            exact ih (i' + 1) es s (by omega)
      rw [hno _ _ _ _ (Nat.le_refl i)]
      exact he
    | succ k =>
      have := hall k o' e' (by simpa using ho') (by simpa using he')
      simp only [foldAll]
      rw [if_pos (by simp)]
      rw [show i + 1 + k = i + (k + 1) by omega] at this
      exact this
end

/-! ### slots and names of such states -/

theorem after1_slot {o : Op2} {e : Option Eff} {st : St} {t : Nat} (h : o.dst ≠ some t) : (after1 o e st).tmps.getD t .dead = st.tmps.getD t .dead := by
  cases hd : o.dst with
  | none => cases e <;> simp [after1, skipOp, apply, hd]
  | some d =>
    have hne : d ≠ t := fun e => h (by rw [hd, e])
    cases e <;> simp [after1, skipOp, apply, hd, List.getD, List.getElem?_set_ne hne]

def valOf : Option Eff → SV
  | some ef => ef.val
  | none => .tup []

theorem after1_dst {o : Op2} {e : Option Eff} {st : St} {t : Nat} (h : o.dst = some t) : (after1 o e st).tmps.getD t .dead = if t < st.tmps.length then valOf e else .dead := by
  cases e <;> simp only [after1, skipOp, apply, h, valOf, List.getD, List.getElem?_set, if_true] <;> split <;> rfl

theorem after1_congr {o : Op2} {e : Option Eff} {st st' : St} {t : Nat} (hl : st.tmps.length = st'.tmps.length) (h : st.tmps.getD t .dead = st'.tmps.getD t .dead) :
    (after1 o e st).tmps.getD t .dead = (after1 o e st').tmps.getD t .dead := by
  by_cases hd : o.dst = some t
  · rw [after1_dst hd, after1_dst hd, hl]
  · rw [after1_slot hd, after1_slot hd, h]

theorem slot_congr {sel sel' : Nat → Bool} {t : Nat} : ∀ (l : List Op2) (es : List (Option Eff)) (i : Nat) (st st' : St), st.tmps.length = st'.tmps.length → st.tmps.getD t .dead = st'.tmps.getD t .dead →
    (∀ (k : Nat) o, l[k]? = some o → o.dst = some t → sel (i + k) = sel' (i + k)) → (foldAll sel i l es st).tmps.getD t .dead = (foldAll sel' i l es st').tmps.getD t .dead
  | [], es, i, st, st', hl, h, _ => h
  | o :: l, [], i, st, st', hl, h, _ => h
  | o :: l, e :: es, i, st, st', hl, h, hs => by
    simp only [foldAll]
    refine slot_congr l es (i + 1) _ _ ?_ ?_ fun k o' ho' hd => ?_
    · split <;> split <;> simp [after1_len, hl]
    · by_cases hd : o.dst = some t
      · have := hs 0 o (by simp) hd
        simp only [Nat.add_zero] at this
        rw [this]
        split
        · exact after1_congr hl h
        · exact h
      · have h1 : ∀ (b : Bool) (s : St), (if b then after1 o e s else s).tmps.getD t .dead = s.tmps.getD t .dead := by
          intro b s
          cases b
          · rfl
          · exact after1_slot hd
        rw [h1, h1, h]
    · have := hs (k + 1) o' (by simpa using ho') hd
      rw [show i + 1 + k = i + (k + 1) by omega]
      exact this

theorem slot_last {sel : Nat → Bool} {t : Nat} {o : Op2} {e : Option Eff} : ∀ (l : List Op2) (es : List (Option Eff)) (i k : Nat) (st : St), l[k]? = some o → es[k]? = some e → o.dst = some t → sel (i + k) = true →
    (∀ (k' : Nat) o', k < k' → l[k']? = some o' → o'.dst = some t → sel (i + k') = false) → (foldAll sel i l es st).tmps.getD t .dead = if t < st.tmps.length then valOf e else .dead
  | [], es, i, k, st, ho, _, _, _, _ => by simp at ho
  | x :: l, [], i, k, st, _, he, _, _, _ => by simp at he
  | x :: l, y :: es, i, 0, st, ho, he, hd, hs, hno => by
    simp at ho he
    subst ho he
    simp only [foldAll]
    rw [if_pos (show sel i = true from hs)]
    rw [slot_congr (sel' := fun _ => false) l es (i + 1) _ (after1 x y st) rfl rfl fun k o' ho' hd' => by
      have := hno (k + 1) o' (by omega) (by simpa using ho') hd'
      rw [show i + 1 + k = i + (k + 1) by omega]
      exact this]
    have hno : ∀ (l : List Op2) (i : Nat) (es : List (Option Eff)) (s : St), foldAll (fun _ => false) i l es s = s := by
      intro l
      induction l with
      | nil => intro i es s; rfl
      | cons x l ih =>
        intro i es s
        cases es with
        | nil => rfl
        | cons y es => exact ih (i + 1) es s
    rw [hno, after1_dst hd]
  | x :: l, y :: es, i, k + 1, st, ho, he, hd, hs, hno => by
    simp only [foldAll]
    rw [slot_last l es (i + 1) k _ (by simpa using ho) (by simpa using he) hd (by rw [show i + 1 + k = i + (k + 1) by omega]; exact hs) fun k' o' hk ho' hd' => by
      have := hno (k' + 1) o' (by omega) (by simpa using ho') hd'
      rw [show i + 1 + k' = i + (k' + 1) by omega]
      exact this]
    split <;> simp [after1_len]

def updOf : Option Eff → List (Nat × Ob)
  | some ef => ef.upd
  | none => []

theorem after1_mem (o : Op2) (e : Option Eff) (st : St) : (after1 o e st).mem = st.mem.sets (updOf e) := by
  cases e <;> rfl

theorem sets_congr {q : Nat} : ∀ (l : List (Nat × Ob)) (m m' : Mem), m.get q = m'.get q → (m.sets l).get q = (m'.sets l).get q
  | [], m, m', h => h
  | (k, o) :: l, m, m', h => by
    simp only [Mem.sets]
    refine sets_congr l _ _ ?_
    rw [Mem.get_set, Mem.get_set, h]

theorem sets_in {q : Nat} : ∀ (l : List (Nat × Ob)) (m m' : Mem), q ∈ names l → (m.sets l).get q = (m'.sets l).get q
  | [], m, m', h => by cases h
  | (k, o) :: l, m, m', h => by
    simp only [names, List.mem_cons] at h
    simp only [Mem.sets]
    by_cases hq : q = k
    · refine sets_congr l _ _ ?_
      rw [Mem.get_set, Mem.get_set, if_pos hq, if_pos hq]
    · exact sets_in l _ _ (h.resolve_left hq)

theorem sets_out {q : Nat} (l : List (Nat × Ob)) (m : Mem) (h : q ∉ names l) : (m.sets l).get q = m.get q :=
  Mem.get_sets l m q fun o ho => h (mem_names.2 ⟨o, ho⟩)

theorem get_congr {sel sel' : Nat → Bool} {q : Nat} : ∀ (l : List Op2) (es : List (Option Eff)) (i : Nat) (st st' : St), st.mem.get q = st'.mem.get q →
    (∀ (k : Nat) e, k < l.length → es[k]? = some e → q ∈ names (updOf e) → sel (i + k) = sel' (i + k)) → (foldAll sel i l es st).mem.get q = (foldAll sel' i l es st').mem.get q
  | [], es, i, st, st', h, _ => h
  | o :: l, [], i, st, st', h, _ => h
  | o :: l, e :: es, i, st, st', h, hs => by
    simp only [foldAll]
    refine get_congr l es (i + 1) _ _ ?_ fun k e' hk he' hd => ?_
    · by_cases hd : q ∈ names (updOf e)
      · have := hs 0 e (by simp) (by simp) hd
        simp only [Nat.add_zero] at this
        rw [this]
        split
        · rw [after1_mem, after1_mem]; exact sets_congr _ _ _ h
        · exact h
      · have h1 : ∀ (b : Bool) (s : St), (if b then after1 o e s else s).mem.get q = s.mem.get q := by
          intro b s
          cases b
          · rfl
          · simp only [if_true]; rw [after1_mem]; exact sets_out _ _ hd
        rw [h1, h1, h]
    · have := hs (k + 1) e' (by simp; omega) (by simpa using he') hd
      rw [show i + 1 + k = i + (k + 1) by omega]
      exact this

theorem get_last {sel : Nat → Bool} {q : Nat} {e : Option Eff} : ∀ (l : List Op2) (es : List (Option Eff)) (i k : Nat) (st : St) (m : Mem), k < l.length → es[k]? = some e → q ∈ names (updOf e) → sel (i + k) = true →
    (∀ (k' : Nat) e', k < k' → k' < l.length → es[k']? = some e' → q ∈ names (updOf e') → sel (i + k') = false) → (foldAll sel i l es st).mem.get q = (m.sets (updOf e)).get q
  | [], es, i, k, st, m, ho, _, _, _, _ => by simp at ho
  | x :: l, [], i, k, st, m, _, he, _, _, _ => by simp at he
  | x :: l, y :: es, i, 0, st, m, ho, he, hd, hs, hno => by
    simp at he
    subst he
    simp only [foldAll]
    rw [if_pos (show sel i = true from hs)]
    rw [get_congr (sel' := fun _ => false) l es (i + 1) _ (after1 x y st) rfl fun k e' hk he' hd' => by
      have := hno (k + 1) e' (by omega) (by simp; omega) (by simpa using he') hd'
      rw [show i + 1 + k = i + (k + 1) by omega]
      exact this]
    have hno : ∀ (l : List Op2) (i : Nat) (es : List (Option Eff)) (s : St), foldAll (fun _ => false) i l es s = s := by
      intro l
      induction l with
      | nil => intro i es s; rfl
      | cons x l ih =>
        intro i es s
        cases es with
        | nil => rfl
        | cons y es => exact ih (i + 1) es s
    rw [hno, after1_mem]
    exact sets_in _ _ _ hd
  | x :: l, y :: es, i, k + 1, st, m, ho, he, hd, hs, hno => by
    simp only [foldAll]
    exact get_last l es (i + 1) k _ m (by simp at ho; omega) (by simpa using he) hd (by rw [show i + 1 + k = i + (k + 1) by omega]; exact hs) fun k' e' hk hk' he' hd' => by
      have := hno (k' + 1) e' (by omega) (by simp; omega) (by simpa using he') hd'
      rw [show i + 1 + k' = i + (k' + 1) by omega]
      exact this
end Go.Proofs.Ytgfanlafbjbkaaa.S2
