/-
  S2, twenty-fourth part: contracts: what a function, a loop makes of what has a shape.
-/
import Derived.Test.YtlmiaagcnhgfmaaS2w
set_option linter.unusedVariables false
set_option linter.unusedSimpArgs false
namespace Go.Proofs.Ytlmiaagcnhgfmaa.S2
open Go

mutual
/-- The shape of a value: what is open in it are its leaves. -/
inductive Sk where
  | const (c : SV)
  | leaf (p : Prim)
  | agg (l : SkL)
  | tup (l : SkL)
inductive SkL where
  | nil
  | cons (s : Sk) (l : SkL)
end

mutual
def Sk.T : Sk → Type
  | .const _ => Unit
  | .leaf p => p.T
  | .agg l => l.T
  | .tup l => l.T
def SkL.T : SkL → Type
  | .nil => Unit
  | .cons (.const _) l => l.T
  | .cons (.leaf p) l => p.T × l.T
  | .cons (.agg l') l => l'.T × l.T
  | .cons (.tup l') l => l'.T × l.T
end

mutual
def Sk.sv : (s : Sk) → s.T → SV
  | .const c, _ => c
  | .leaf p, x => p.sv x
  | .agg l, x => .agg (l.svs x)
  | .tup l, x => .tup (l.svs x)
def SkL.svs : (l : SkL) → l.T → List SV
  | .nil, _ => []
  | .cons (.const c) l, x => c :: l.svs x
  | .cons (.leaf p) l, x => p.sv x.1 :: l.svs x.2
  | .cons (.agg l') l, x => .agg (l'.svs x.1) :: l.svs x.2
  | .cons (.tup l') l, x => .tup (l'.svs x.1) :: l.svs x.2
end

/-- Is it that value? 'dead' stands for any. -/
def SV.same : SV → SV → Bool
  | .dead, _ => true
  | .nils, .nils => true
  | .pe, .pe => true
  | .nilp, .nilp => true
  | .nilf, .nilf => true
  | .nili, .nili => true
  | .nilm, .nilm => true
  | .slw k, .slw k' => k == k'
  | .sl k off len, .sl k' off' len' => k == k' && off == off' && len == len'
  | .ptr k i fo, .ptr k' i' fo' => k == k' && i == i' && fo == fo'
  | .fn f [], .fn f' [] => f == f'
  | _, _ => false

mutual
def Sk.of : (s : Sk) → SV → Option s.T
  | .const c, x => if c.same x = true then some () else none
  | .leaf p, x => p.of [] x
  | .agg l, .agg cs => l.of cs
  | .tup l, .tup cs => l.of cs
  | .agg _, _ => none
  | .tup _, _ => none
def SkL.of : (l : SkL) → List SV → Option l.T
  | .nil, [] => some ()
  | .nil, _ :: _ => none
  | .cons _ _, [] => none
  | .cons (.const c) l, x :: xs => if c.same x = true then l.of xs else none
  | .cons (.leaf p) l, x :: xs => match p.of [] x, l.of xs with | some a, some b => some (a, b) | _, _ => none
  | .cons (.agg l') l, .agg cs :: xs => match l'.of cs, l.of xs with | some a, some b => some (a, b) | _, _ => none
  | .cons (.agg _) _, _ :: _ => none
  | .cons (.tup l') l, .tup cs :: xs => match l'.of cs, l.of xs with | some a, some b => some (a, b) | _, _ => none
  | .cons (.tup _) _, _ :: _ => none
end

theorem SkL.of_const {c : SV} {l : SkL} {x : SV} {xs : List SV} {y : l.T} (h : (SkL.cons (.const c) l).of (x :: xs) = some y) : c.same x = true ∧ l.of xs = some y := by
  have h : (if c.same x = true then l.of xs else none) = some y := h
  by_cases hs : c.same x = true
  · rw [if_pos hs] at h
    exact ⟨hs, h⟩
  · rw [if_neg hs] at h
    cases h

theorem rowCast {e e' : TypeId} {r r' : Row} {xs : List r'.T} {y : List r.T} (h : (if h : r' = r then (if e' = e then some (castRow h xs) else none) else none) = some y) : ∃ h : r' = r, e' = e ∧ y = castRow h xs := by
  by_cases hr : r' = r
  · rw [dif_pos hr] at h
    by_cases he : e' = e
    · rw [if_pos he] at h
      exact ⟨hr, he, (Option.some.inj h).symm⟩
    · rw [if_neg he] at h
      cases h
  · rw [dif_neg hr] at h
    cases h

theorem same_R {w : World} {A : Nat → Prop} {β : Loc} {c x : SV} {v : Value} (h : c.same x = true) (hx : x.R w A β v) : c.R w A β v := by
  unfold SV.same at h
  split at h
  · trivial
  · exact hx
  · exact hx
  · exact hx
  · exact hx
  · exact hx
  · exact hx
  · simp at h; subst h; exact hx
  · simp at h; obtain ⟨⟨rfl, rfl⟩, rfl⟩ := h; exact hx
  · simp at h; obtain ⟨⟨rfl, rfl⟩, rfl⟩ := h; exact hx
  · simp at h; subst h; exact hx
  · cases h

section
variable {w : World} {A : Nat → Prop} {β : Loc}
mutual
theorem Sk.of_R : (s : Sk) → (x : SV) → (y : s.T) → (v : Value) → s.of x = some y → x.R w A β v → (s.sv y).R w A β v
  | .const c, x, y, v, h, hx => by
    simp only [Sk.of] at h
    split at h
    · rename_i hs; exact same_R hs hx
    · cases h
  | .leaf p, x, y, v, h, hx => Prim.R_sv p y v (Prim.of_R p x y v h hx)
  | .agg l, x, y, v, h, hx => by
    cases x with
    | agg cs =>
      simp only [Sk.of] at h
      simp only [SV.R] at hx
      obtain ⟨vs, hv, hl, h1⟩ := hx
      exact ⟨vs, hv, SkL.of_R l cs y vs h hl, h1⟩
    | _ => simp [Sk.of] at h
  | .tup l, x, y, v, h, hx => by
    cases x with
    | tup cs =>
      simp only [Sk.of] at h
      simp only [SV.R] at hx
      obtain ⟨vs, hv, hl⟩ := hx
      exact ⟨vs, hv, SkL.of_R l cs y vs h hl⟩
    | _ => simp [Sk.of] at h
theorem SkL.of_R : (l : SkL) → (xs : List SV) → (y : l.T) → (vs : List Value) → l.of xs = some y → SV.RL w A β xs vs → SV.RL w A β (l.svs y) vs
  | .nil, [], y, vs, h, hx => hx
  | .nil, _ :: _, y, vs, h, hx => by simp [SkL.of] at h
  | .cons (.const _) _, [], y, vs, h, hx => by simp [SkL.of] at h
  | .cons (.leaf _) _, [], y, vs, h, hx => by simp [SkL.of] at h
  | .cons (.agg _) _, [], y, vs, h, hx => by simp [SkL.of] at h
  | .cons (.tup _) _, [], y, vs, h, hx => by simp [SkL.of] at h
  | .cons (.const c) l, x :: xs, y, vs, h, hx => by
    obtain ⟨hs, h⟩ := SkL.of_const (c := c) (l := l) h
    simp only [SV.RL] at hx
    obtain ⟨v, vs', rfl, hx, hl⟩ := hx
    exact ⟨v, vs', rfl, same_R hs hx, SkL.of_R l xs y vs' h hl⟩
  | .cons (.leaf p) l, x :: xs, y, vs, h, hx => by
    simp only [SkL.of] at h
    split at h
    · rename_i a b ha hb
      cases h
      simp only [SV.RL] at hx
      obtain ⟨v, vs', rfl, hx, hl⟩ := hx
      exact ⟨v, vs', rfl, Prim.R_sv p a v (Prim.of_R p x a v ha hx), SkL.of_R l xs b vs' hb hl⟩
    · cases h
  | .cons (.agg l') l, x :: xs, y, vs, h, hx => by
    cases x with
    | agg cs =>
      simp only [SkL.of] at h
      split at h
      · rename_i a b ha hb
        cases h
        simp only [SV.RL] at hx
        obtain ⟨v, vs', rfl, hx, hl⟩ := hx
        simp only [SV.R] at hx
        obtain ⟨us, hv, hus, h1⟩ := hx
        exact ⟨v, vs', rfl, ⟨us, hv, SkL.of_R l' cs a us ha hus, h1⟩, SkL.of_R l xs b vs' hb hl⟩
      · cases h
    | _ => simp [SkL.of] at h
  | .cons (.tup l') l, x :: xs, y, vs, h, hx => by
    cases x with
    | tup cs =>
      simp only [SkL.of] at h
      split at h
      · rename_i a b ha hb
        cases h
        simp only [SV.RL] at hx
        obtain ⟨v, vs', rfl, hx, hl⟩ := hx
        simp only [SV.R] at hx
        obtain ⟨us, hv, hus⟩ := hx
        exact ⟨v, vs', rfl, ⟨us, hv, SkL.of_R l' cs a us ha hus⟩, SkL.of_R l xs b vs' hb hl⟩
      · cases h
    | _ => simp [SkL.of] at h
end
end

/-! ### objects -/

inductive OSk where
  | cells (l : SkL)
  | row (e : TypeId) (r : Row)
  | froz (e : TypeId) (r : Row)
  | gone

def OSk.T : OSk → Type
  | .cells l => l.T
  | .row _ r => List r.T
  | .froz _ r => List r.T
  | .gone => Unit

def OSk.ob : (o : OSk) → o.T → Ob
  | .cells l, x => .cells (l.svs x)
  | .row e r, x => .row e r x
  | .froz e r, x => .froz e r x
  | .gone, _ => .gone

def OSk.of : (o : OSk) → Ob → Option o.T
  | .cells l, .cells cs => l.of cs
  | .row e r, .row e' r' xs => if h : r' = r then (if e' = e then some (castRow h xs) else none) else none
  | .froz e r, .froz e' r' xs => if h : r' = r then (if e' = e then some (castRow h xs) else none) else none
  | .gone, .gone => some ()
  | _, _ => none

theorem OSk.of_row {e e' : TypeId} {r r' : Row} {xs : List r'.T} : (OSk.row e r).of (.row e' r' xs) = (if h : r' = r then (if e' = e then some (castRow h xs) else none) else none : Option (List r.T)) := rfl
theorem OSk.of_froz {e e' : TypeId} {r r' : Row} {xs : List r'.T} : (OSk.froz e r).of (.froz e' r' xs) = (if h : r' = r then (if e' = e then some (castRow h xs) else none) else none : Option (List r.T)) := rfl

theorem OSk.row_R {w : World} {A : Nat → Prop} {β : Loc} {l : LK} {e e' : TypeId} {r r' : Row} {xs : List r'.T} {y : List r.T} (h : ∃ h : r' = r, e' = e ∧ y = castRow h xs) (hx : ObR w A β l (.row e' r' xs)) : ObR w A β l (.row e r y) := by
  obtain ⟨rfl, rfl, rfl⟩ := h
  exact hx
theorem OSk.froz_R {w : World} {A : Nat → Prop} {β : Loc} {l : LK} {e e' : TypeId} {r r' : Row} {xs : List r'.T} {y : List r.T} (h : ∃ h : r' = r, e' = e ∧ y = castRow h xs) (hx : ObR w A β l (.froz e' r' xs)) : ObR w A β l (.froz e r y) := by
  obtain ⟨rfl, rfl, rfl⟩ := h
  exact hx

theorem OSk.of_R {w : World} {A : Nat → Prop} {β : Loc} {l : LK} : (o : OSk) → (x : Ob) → (y : o.T) → o.of x = some y → ObR w A β l x → ObR w A β l (o.ob y)
  | .cells s, .cells cs, y, h, hx => by
    cases l with
    | box b =>
      obtain ⟨vs, t, hh, hrl, h1⟩ := hx
      exact ⟨vs, t, hh, SkL.of_R s cs y _ h hrl, h1⟩
    | _ => exact hx.elim
  | .row e r, .row e' r' xs, y, h, hx => OSk.row_R (rowCast (OSk.of_row.symm.trans h)) hx
  | .froz e r, .froz e' r' xs, y, h, hx => OSk.froz_R (rowCast (OSk.of_froz.symm.trans h)) hx
  | .gone, .gone, y, h, hx => hx
  | .cells _, .row _ _ _, y, h, hx => by cases h
  | .cells _, .froz _ _ _, y, h, hx => by cases h
  | .cells _, .gone, y, h, hx => by cases h
  | .row _ _, .cells _, y, h, hx => by cases h
  | .row _ _, .froz _ _ _, y, h, hx => by cases h
  | .row _ _, .gone, y, h, hx => by cases h
  | .froz _ _, .cells _, y, h, hx => by cases h
  | .froz _ _, .row _ _ _, y, h, hx => by cases h
  | .froz _ _, .gone, y, h, hx => by cases h
  | .gone, .cells _, y, h, hx => by cases h
  | .gone, .row _ _ _, y, h, hx => by cases h
  | .gone, .froz _ _ _, y, h, hx => by cases h

abbrev MSk := List (Nat × OSk)

def MSk.T : MSk → Type
  | [] => Unit
  | (_, o) :: l => o.T × MSk.T l

def MSk.mem : (s : MSk) → s.T → Mem
  | [], _ => []
  | (k, o) :: l, x => (k, o.ob x.1) :: MSk.mem l x.2

def MSk.keys : MSk → List Nat
  | [] => []
  | (k, _) :: l => k :: MSk.keys l

def MSk.ofs (m : Mem) : (s : MSk) → Option s.T
  | [] => some ()
  | (k, o) :: l => match m.get k with
    | some x => match o.of x, MSk.ofs m l with
      | some a, some b => some (a, b)
      | _, _ => none
    | none => none

def MSk.of (s : MSk) (m : Mem) : Option s.T :=
  if (names m).all s.keys.contains = true ∧ distinct s.keys = true then s.ofs m else none

theorem MSk.ofs_get {m : Mem} : (s : MSk) → (y : s.T) → s.ofs m = some y → distinct s.keys = true → ∀ k o', (s.mem y).get k = some o' → ∃ x o a, m.get k = some x ∧ OSk.of o x = some a ∧ o' = o.ob a
  | [], y, h, _, k, o', hg => by cases hg
  | (q, o) :: l, y, h, hd, k, o', hg => by
    simp only [MSk.ofs] at h
    split at h
    · rename_i x hx
      split at h
      · rename_i a b ha hb
        cases h
        simp only [MSk.keys, distinct, Bool.and_eq_true] at hd
        simp only [MSk.mem, Mem.get] at hg
        split at hg
        · rename_i hk
          subst hk
          cases hg
          exact ⟨x, o, a, hx, ha, rfl⟩
        · exact MSk.ofs_get l b hb hd.2 k o' hg
      · cases h
    · cases h

theorem MSk.mem_keys : (s : MSk) → (y : s.T) → names (s.mem y) = s.keys
  | [], _ => rfl
  | (k, o) :: l, y => by simp [MSk.mem, names, MSk.keys, MSk.mem_keys l y.2]

theorem MSk.of_MR {w : World} {Z : Nat → Prop} {β : Loc} {m : Mem} (s : MSk) (y : s.T) (h : s.of m = some y) (hm : MR w Z β m) : MR w Z β (s.mem y) := by
  unfold MSk.of at h
  split at h
  · rename_i hc
    obtain ⟨hall, hd⟩ := hc
    have hkeys : ∀ k, k ∈ names (s.mem y) ↔ k ∈ s.keys := fun k => by rw [MSk.mem_keys]
    refine ⟨fun k o' hk => ?_, fun k l hl => ?_, hm.inj, hm.apart, hm.old⟩
    · obtain ⟨x, o, a, hx, ha, rfl⟩ := MSk.ofs_get s y h hd k o' hk
      obtain ⟨l, hl, hob⟩ := hm.obs k x hx
      exact ⟨l, hl, OSk.of_R o x a ha hob⟩
    · obtain ⟨o, ho⟩ := hm.dom k l hl
      have : k ∈ s.keys := by
        have := List.all_eq_true.1 hall k (names_get.2 ⟨o, ho⟩)
        simpa using this
      exact names_get.1 ((hkeys k).2 this)
  · cases h

/-! ### functions -/

structure OutC where
  res : Sk
  mem : MSk

def OutC.T (o : OutC) : Type := o.res.T × o.mem.T

def OutsT : List OutC → Type
  | [] => Empty
  | [o] => o.T
  | o :: o' :: l => o.T ⊕ OutsT (o' :: l)

def outsGet : (l : List OutC) → OutsT l → SV × Mem
  | [o], x => (o.res.sv x.1, o.mem.mem x.2)
  | o :: _ :: _, .inl x => (o.res.sv x.1, o.mem.mem x.2)
  | _ :: o' :: l, .inr x => outsGet (o' :: l) x

def outsRun {α : Type} : (l : List OutC) → OutsT l → (SV → Mem → Option α) → Option α
  | [], _, _ => none
  | [o], x, K => K (o.res.sv x.1) (o.mem.mem x.2)
  | o :: o' :: l, x, K => Sum.elim (α := o.T) (β := OutsT (o' :: l)) (fun x => K (o.res.sv x.1) (o.mem.mem x.2)) (fun x => outsRun (o' :: l) x K) x

theorem outsRun_eq {α : Type} : (l : List OutC) → (x : OutsT l) → (K : SV → Mem → Option α) → outsRun l x K = K (outsGet l x).1 (outsGet l x).2
  | [o], x, K => rfl
  | o :: _ :: _, .inl x, K => rfl
  | _ :: o' :: l, .inr x, K => outsRun_eq (o' :: l) x K

structure Con where
  args : SkL
  mem : MSk
  outs : List OutC
  F : args.T → mem.T → Option (OutsT outs)

def Con.run {α : Type} (c : Con) (args : List SV) (m : Mem) (K : SV → Mem → Option α) : Option α :=
  match c.args.of args, c.mem.of m with
  | some a, some b => (c.F a b).bind fun r => outsRun c.outs r K
  | _, _ => none

def ConOK (P : Program) (f : FuncId) (c : Con) : Prop := ∀ a b r, c.F a b = some r → CallOK P f (c.args.svs a) (c.mem.mem b) (outsGet c.outs r).1 (outsGet c.outs r).2

theorem Con.run_nat {α : Type} (c : Con) (args : List SV) (m : Mem) (K : SV → Mem → Option α) : c.run args m K = (c.run args m fun v m' => some (v, m')).bind fun p => K p.1 p.2 := by
  unfold Con.run
  split
  · rw [Option.bind_assoc]
    congr 1
    funext r
    rw [outsRun_eq, outsRun_eq]
    rfl
  · rfl

theorem Con.run_ok {P : Program} {f : FuncId} {c : Con} (hc : ConOK P f c) {args : List SV} {m : Mem} {v : SV} {m' : Mem} (h : c.run args m (fun v m' => some (v, m')) = some (v, m')) : CallOK P f args m v m' := by
  unfold Con.run at h
  split at h
  · rename_i a b ha hb
    obtain ⟨r, hr, h⟩ := Option.bind_eq_some_iff.1 h
    rw [outsRun_eq] at h
    simp only [Option.some.injEq, Prod.mk.injEq] at h
    obtain ⟨rfl, rfl⟩ := h
    intro w Z β vs hm hx
    exact hc a b r hr w Z β vs (MSk.of_MR c.mem b hb hm) (SkL.of_R c.args args a vs ha hx)
  · cases h

/-! ### loops -/

structure OutL where
  out : Out
  tmps : SkL
  mem : MSk

def OutL.T (o : OutL) : Type := o.tmps.T × o.mem.T

def OutLsT : List OutL → Type
  | [] => Empty
  | [o] => o.T
  | o :: o' :: l => o.T ⊕ OutLsT (o' :: l)

def outLsGet : (l : List OutL) → OutLsT l → Out × St
  | [o], x => (o.out, ⟨o.tmps.svs x.1, o.mem.mem x.2⟩)
  | o :: _ :: _, .inl x => (o.out, ⟨o.tmps.svs x.1, o.mem.mem x.2⟩)
  | _ :: o' :: l, .inr x => outLsGet (o' :: l) x

def outLsRun {α : Type} : (l : List OutL) → OutLsT l → (Out → St → Option α) → Option α
  | [], _, _ => none
  | [o], x, K => K o.out ⟨o.tmps.svs x.1, o.mem.mem x.2⟩
  | o :: o' :: l, x, K => Sum.elim (α := o.T) (β := OutLsT (o' :: l)) (fun x => K o.out ⟨o.tmps.svs x.1, o.mem.mem x.2⟩) (fun x => outLsRun (o' :: l) x K) x

theorem outLsRun_eq {α : Type} : (l : List OutL) → (x : OutLsT l) → (K : Out → St → Option α) → outLsRun l x K = K (outLsGet l x).1 (outLsGet l x).2
  | [o], x, K => rfl
  | o :: _ :: _, .inl x, K => rfl
  | _ :: o' :: l, .inr x, K => outLsRun_eq (o' :: l) x K

/-- Rounds, till there is an answer. -/
def runN {S R : Type} (step : S → Option (S ⊕ R)) : Nat → S → Option R
  | 0, _ => none
  | n + 1, s => (step s).bind fun
    | .inl s' => runN step n s'
    | .inr r => some r

open Classical in
noncomputable def runL {S R : Type} (step : S → Option (S ⊕ R)) (s : S) : Option R :=
  if h : ∃ n r, runN step n s = some r then some h.choose_spec.choose else none

theorem runN_mono {S R : Type} {step : S → Option (S ⊕ R)} : ∀ {n k : Nat} {s : S} {r : R}, n ≤ k → runN step n s = some r → runN step k s = some r
  | 0, k, s, r, _, h => by cases h
  | n + 1, 0, s, r, hk, h => by omega
  | n + 1, k + 1, s, r, hk, h => by
    simp only [runN] at h ⊢
    obtain ⟨x, hx, h⟩ := Option.bind_eq_some_iff.1 h
    rw [hx]
    cases x with
    | inl s' => exact runN_mono (by omega) h
    | inr r' => exact h

theorem runL_of {S R : Type} {step : S → Option (S ⊕ R)} {n : Nat} {s : S} {r : R} (h : runN step n s = some r) : runL step s = some r := by
  unfold runL
  have hex : ∃ n r, runN step n s = some r := ⟨n, r, h⟩
  rw [dif_pos hex]
  have h2 := hex.choose_spec.choose_spec
  have h3 := runN_mono (Nat.le_max_left hex.choose n) h2
  have h4 := runN_mono (Nat.le_max_right hex.choose n) h
  rw [h3] at h4
  exact h4

theorem runL_some {S R : Type} {step : S → Option (S ⊕ R)} {s : S} {r : R} (h : runL step s = some r) : ∃ n, runN step n s = some r := by
  unfold runL at h
  split at h
  · rename_i hex
    cases h
    exact ⟨_, hex.choose_spec.choose_spec⟩
  · cases h

/-- The loop's own law. -/
theorem runL_eq {S R : Type} (step : S → Option (S ⊕ R)) (s : S) : runL step s = (step s).bind fun
    | .inl s' => runL step s'
    | .inr r => some r := by
  cases hs : step s with
  | none =>
    cases hr : runL step s with
    | none => rfl
    | some r =>
      obtain ⟨n, hn⟩ := runL_some hr
      cases n with
      | zero => cases hn
      | succ n => simp [runN, hs] at hn
  | some x =>
    cases x with
    | inr r => exact runL_of (n := 1) (by simp [runN, hs])
    | inl s' =>
      simp only [Option.bind_some]
      cases hr : runL step s' with
      | some r =>
        obtain ⟨n, hn⟩ := runL_some hr
        exact runL_of (n := n + 1) (by simp [runN, hs, hn])
      | none =>
        cases hr2 : runL step s with
        | none => rfl
        | some r =>
          obtain ⟨n, hn⟩ := runL_some hr2
          cases n with
          | zero => cases hn
          | succ n =>
            simp only [runN, hs, Option.bind_some] at hn
            rw [runL_of hn] at hr
            cases hr

structure LCon where
  tmps : SkL
  mem : MSk
  outs : List OutL
  F : tmps.T → mem.T → Option (OutLsT outs)

def LCon.st (c : LCon) (p : c.tmps.T × c.mem.T) : St := ⟨c.tmps.svs p.1, c.mem.mem p.2⟩

def LCon.run {α : Type} (c : LCon) (st : St) (K : Out → St → Option α) : Option α :=
  match c.tmps.of st.tmps, c.mem.of st.mem with
  | some a, some b => (c.F a b).bind fun r => outLsRun c.outs r K
  | _, _ => none

def LConOK (P : Program) (b : C2) (c : LCon) : Prop := ∀ x y r, c.F x y = some r → LoopOK P b (c.st (x, y)) (outLsGet c.outs r).1 (outLsGet c.outs r).2

theorem LCon.run_nat {α : Type} (c : LCon) (st : St) (K : Out → St → Option α) : c.run st K = (c.run st fun o s => some (o, s)).bind fun p => K p.1 p.2 := by
  unfold LCon.run
  split
  · rw [Option.bind_assoc]
    congr 1
    funext r
    rw [outLsRun_eq, outLsRun_eq]
    rfl
  · rfl

theorem SkL.svs_len : (l : SkL) → (xs : List SV) → (y : l.T) → l.of xs = some y → (l.svs y).length = xs.length
  | .nil, [], y, h => rfl
  | .nil, _ :: _, y, h => by simp [SkL.of] at h
  | .cons (.const _) _, [], y, h => by simp [SkL.of] at h
  | .cons (.leaf _) _, [], y, h => by simp [SkL.of] at h
  | .cons (.agg _) _, [], y, h => by simp [SkL.of] at h
  | .cons (.tup _) _, [], y, h => by simp [SkL.of] at h
  | .cons (.const c) l, x :: xs, y, h => by
    obtain ⟨hs, h⟩ := SkL.of_const (c := c) (l := l) h
    have := SkL.svs_len l xs y h
    simp only [SkL.svs, List.length_cons]
    rw [this]
  | .cons (.leaf p) l, x :: xs, y, h => by
    simp only [SkL.of] at h
    split at h
    · rename_i a b ha hb
      cases h
      simp [SkL.svs, SkL.svs_len l xs b hb]
    · cases h
  | .cons (.agg l') l, x :: xs, y, h => by
    cases x with
    | agg cs =>
      simp only [SkL.of] at h
      split at h
      · rename_i a b ha hb
        cases h
        simp [SkL.svs, SkL.svs_len l xs b hb]
      · cases h
    | _ => simp [SkL.of] at h
  | .cons (.tup l') l, x :: xs, y, h => by
    cases x with
    | tup cs =>
      simp only [SkL.of] at h
      split at h
      · rename_i a b ha hb
        cases h
        simp [SkL.svs, SkL.svs_len l xs b hb]
      · cases h
    | _ => simp [SkL.of] at h

theorem RL_getD {w : World} {A : Nat → Prop} {β : Loc} {l : List SV} {vs : List Value} (h : SV.RL w A β l vs) (i : Nat) : (l.getD i .dead).R w A β (vs.getD i undef) := by
  cases hx : l[i]? with
  | none => simp [List.getD, hx, SV.R]
  | some x =>
    obtain ⟨v, hv, hr⟩ := SV.RL_get _ _ h i x hx
    simpa [List.getD, hx, hv] using hr

theorem FR.of {w : World} {A : Nat → Prop} {β : Loc} {l : SkL} {ts : List SV} {a : Act} (hF : FR w A β ts a) {y : l.T} (h : l.of ts = some y) : FR w A β (l.svs y) a := by
  have hRL : SV.RL w A β ts a.tmps.toList := SV.RL_of_get _ _ (by simpa using hF.len) fun i x v hx hv => by
    have := hF.val i
    simpa [List.getD, hx, show a.tmps[i]? = some v by simpa using hv] using this
  refine ⟨by rw [SkL.svs_len l ts y h]; exact hF.len, fun i => ?_, hF.defers⟩
  have := RL_getD (SkL.of_R l ts y _ h hRL) i
  simpa [List.getD] using this

theorem LCon.run_ok {P : Program} {b : C2} {c : LCon} (hc : LConOK P b c) {st st' : St} {o : Out} (h : c.run st (fun o s => some (o, s)) = some (o, st')) : LoopOK P b st o st' := by
  unfold LCon.run at h
  split at h
  · rename_i x y hx hy
    obtain ⟨r, hr, h⟩ := Option.bind_eq_some_iff.1 h
    rw [outLsRun_eq] at h
    simp only [Option.some.injEq, Prod.mk.injEq] at h
    obtain ⟨rfl, rfl⟩ := h
    intro an cd hcd w Z β a Q hF hm hQ
    exact hc x y r hr an cd hcd w Z β a Q (hF.of hx) (MSk.of_MR c.mem y hy hm) hQ
  · cases h

/-! ### a table -/

def find {α : Type} (k : Nat) : List (Nat × α) → Option α
  | [] => none
  | (q, x) :: l => if k = q then some x else find k l

theorem find_mem {α : Type} {k : Nat} {x : α} : ∀ {l : List (Nat × α)}, find k l = some x → (k, x) ∈ l
  | [], h => by cases h
  | (q, y) :: l, h => by
    simp only [find] at h
    split at h
    · rename_i hk
      cases h
      subst hk
      exact List.mem_cons_self
    · exact List.mem_cons_of_mem _ (find_mem h)

/-- What is said of functions and of loops, in one. -/
def table (calls : List (Nat × Con)) (loops : List (Nat × LCon)) : CB where
  call f args m K := match find f calls with
    | some c => c.run args m K
    | none => none
  loop an b st K := match find an.id loops with
    | some c => c.run st K
    | none => none

theorem table_nat (calls : List (Nat × Con)) (loops : List (Nat × LCon)) : (table calls loops).Nat where
  call f args m K := by
    simp only [table]
    cases find f calls with
    | none => rfl
    | some c => exact c.run_nat args m K
  loop an b st K := by
    simp only [table]
    cases find an.id loops with
    | none => rfl
    | some c => exact c.run_nat st K
end Go.Proofs.Ytlmiaagcnhgfmaa.S2
