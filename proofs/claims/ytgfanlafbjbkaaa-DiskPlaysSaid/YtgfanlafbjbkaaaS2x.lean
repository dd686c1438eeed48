/-
  S2, twenty-fourth part: contracts: what a function, a loop makes of what has a shape.
-/
import Derived.Test.YtgfanlafbjbkaaaS2w
set_option linter.unusedVariables false
set_option linter.unusedSimpArgs false
namespace Go.Proofs.Ytgfanlafbjbkaaa.S2
open Go

mutual
/-- The shape of a value: what is open in it are its leaves. -/
inductive Sk where
  | const (c : SV)
  | leaf (p : Prim)
  | agg (l : SkL)
  | tup (l : SkL)
  | fn (f : FuncId) (l : SkL)
inductive SkL where
  | nil
  | cons (s : Sk) (l : SkL)
end

mutual
def Sk.T : Sk → Type
  | .const _ => Unit
  | .leaf p => p.T
  | .agg l => l.T
  | .tup l => l.T
  | .fn _ l => l.T
def SkL.T : SkL → Type
  | .nil => Unit
  | .cons (.const _) l => l.T
  | .cons (.leaf p) l => p.T × l.T
  | .cons (.agg l') l => l'.T × l.T
  | .cons (.tup l') l => l'.T × l.T
  | .cons (.fn _ l') l => l'.T × l.T
end

mutual
def Sk.sv : (s : Sk) → s.T → SV
  | .const c, _ => c
  | .leaf p, x => p.sv x
  | .agg l, x => .agg (l.svs x)
  | .tup l, x => .tup (l.svs x)
  | .fn f l, x => .fn f (l.svs x)
def SkL.svs : (l : SkL) → l.T → List SV
  | .nil, _ => []
  | .cons (.const c) l, x => c :: l.svs x
  | .cons (.leaf p) l, x => p.sv x.1 :: l.svs x.2
  | .cons (.agg l') l, x => .agg (l'.svs x.1) :: l.svs x.2
  | .cons (.tup l') l, x => .tup (l'.svs x.1) :: l.svs x.2
  | .cons (.fn f l') l, x => .fn f (l'.svs x.1) :: l.svs x.2
end

/-- Is it that value? 'dead' stands for any. -/
def SV.same : SV → SV → Bool
  | .dead, _ => true
  | .nils, .nils => true
  | .pe, .pe => true
  | .nilp, .nilp => true
  | .nilf, .nilf => true
  | .nili, .nili => true
  | .nilm, .nilm => true
  | .slw k, .slw k' => k == k'
  | .sl k off len, .sl k' off' len' => k == k' && off == off' && len == len'
  | .ptr k i fo, .ptr k' i' fo' => k == k' && i == i' && fo == fo'
  | .fn f [], .fn f' [] => f == f'
  | .bool b, .bool b' => b == b'
  | _, _ => false

mutual
def Sk.of : (s : Sk) → SV → Option s.T
  | .const c, x => if c.same x = true then some () else none
  | .leaf p, x => p.of [] x
  | .agg l, .agg cs => l.of cs
  | .tup l, .tup cs => l.of cs
  | .fn f l, .fn f' cs => if f = f' then l.of cs else none
  | .agg _, _ => none
  | .tup _, _ => none
  | .fn _ _, _ => none
def SkL.of : (l : SkL) → List SV → Option l.T
  | .nil, [] => some ()
  | .nil, _ :: _ => none
  | .cons _ _, [] => none
  | .cons (.const c) l, x :: xs => if c.same x = true then l.of xs else none
  | .cons (.leaf p) l, x :: xs => match p.of [] x, l.of xs with | some a, some b => some (a, b) | _, _ => none
  | .cons (.agg l') l, .agg cs :: xs => match l'.of cs, l.of xs with | some a, some b => some (a, b) | _, _ => none
  | .cons (.agg _) _, _ :: _ => none
  | .cons (.tup l') l, .tup cs :: xs => match l'.of cs, l.of xs with | some a, some b => some (a, b) | _, _ => none
  | .cons (.tup _) _, _ :: _ => none
  | .cons (.fn f l') l, .fn f' cs :: xs => if f = f' then (match l'.of cs, l.of xs with | some a, some b => some (a, b) | _, _ => none) else none
  | .cons (.fn _ _) _, _ :: _ => none
end

theorem SkL.of_const {c : SV} {l : SkL} {x : SV} {xs : List SV} {y : l.T} (h : (SkL.cons (.const c) l).of (x :: xs) = some y) : c.same x = true ∧ l.of xs = some y := by
  have h : (if c.same x = true then l.of xs else none) = some y := h
  by_cases hs : c.same x = true
  · rw [if_pos hs] at h
    exact ⟨hs, h⟩
  · rw [if_neg hs] at h
    cases h

theorem rowCast {e e' : TypeId} {r r' : Row} {xs : List r'.T} {y : List r.T} (h : (if h : r' = r then (if e' = e then some (castRow h xs) else none) else none) = some y) : ∃ h : r' = r, e' = e ∧ y = castRow h xs := by
  by_cases hr : r' = r
  · rw [dif_pos hr] at h
    by_cases he : e' = e
    · rw [if_pos he] at h
      exact ⟨hr, he, (Option.some.inj h).symm⟩
    · rw [if_neg he] at h
      cases h
  · rw [dif_neg hr] at h
    cases h

theorem same_R {w : World} {A : Nat → Prop} {β : Loc} {c x : SV} {v : Value} (h : c.same x = true) (hx : x.R w A β v) : c.R w A β v := by
  unfold SV.same at h
  split at h
  · trivial
  · exact hx
  · exact hx
  · exact hx
  · exact hx
  · exact hx
  · exact hx
  · simp at h; subst h; exact hx
  · simp at h; obtain ⟨⟨rfl, rfl⟩, rfl⟩ := h; exact hx
  · simp at h; obtain ⟨⟨rfl, rfl⟩, rfl⟩ := h; exact hx
  · simp at h; subst h; exact hx
  · simp at h; subst h; exact hx
  · cases h

section
variable {w : World} {A : Nat → Prop} {β : Loc}
mutual
theorem Sk.of_R : (s : Sk) → (x : SV) → (y : s.T) → (v : Value) → s.of x = some y → x.R w A β v → (s.sv y).R w A β v
  | .const c, x, y, v, h, hx => by
    simp only [Sk.of] at h
    split at h
    · rename_i hs; exact same_R hs hx
    · cases h
  | .leaf p, x, y, v, h, hx => Prim.R_sv p y v (Prim.of_R p x y v h hx)
  | .agg l, x, y, v, h, hx => by
    cases x with
    | agg cs =>
      simp only [Sk.of] at h
      simp only [SV.R] at hx
      obtain ⟨vs, hv, hl, h1⟩ := hx
      exact ⟨vs, hv, SkL.of_R l cs y vs h hl, h1⟩
    | _ => simp [Sk.of] at h
  | .tup l, x, y, v, h, hx => by
    cases x with
    | tup cs =>
      simp only [Sk.of] at h
      simp only [SV.R] at hx
      obtain ⟨vs, hv, hl⟩ := hx
      exact ⟨vs, hv, SkL.of_R l cs y vs h hl⟩
    | _ => simp [Sk.of] at h
  | .fn f l, x, y, v, h, hx => by
    cases x with
    | fn f' cs =>
      have h : (if f = f' then l.of cs else none) = some y := h
      by_cases hf : f = f'
      · subst hf
        rw [if_pos rfl] at h
        simp only [SV.R] at hx
        obtain ⟨vs, hv, hl⟩ := hx
        exact ⟨vs, hv, SkL.of_R l cs y vs h hl⟩
      · rw [if_neg hf] at h
        cases h
    | _ => simp [Sk.of] at h
theorem SkL.of_R : (l : SkL) → (xs : List SV) → (y : l.T) → (vs : List Value) → l.of xs = some y → SV.RL w A β xs vs → SV.RL w A β (l.svs y) vs
  | .nil, [], y, vs, h, hx => hx
  | .nil, _ :: _, y, vs, h, hx => by simp [SkL.of] at h
  | .cons (.const _) _, [], y, vs, h, hx => by simp [SkL.of] at h
  | .cons (.leaf _) _, [], y, vs, h, hx => by simp [SkL.of] at h
  | .cons (.agg _) _, [], y, vs, h, hx => by simp [SkL.of] at h
  | .cons (.tup _) _, [], y, vs, h, hx => by simp [SkL.of] at h
  | .cons (.fn _ _) _, [], y, vs, h, hx => by simp [SkL.of] at h
  | .cons (.fn f l') l, x :: xs, y, vs, h, hx => by
    cases x with
    | fn f' cs =>
      have h : (if f = f' then (match l'.of cs, l.of xs with | some a, some b => some (a, b) | _, _ => none) else none : Option (l'.T × l.T)) = some y := h
      by_cases hf : f = f'
      · subst hf
        rw [if_pos rfl] at h
        split at h
        · rename_i a b ha hb
          cases h
          simp only [SV.RL] at hx
          obtain ⟨v, vs', rfl, hx, hl⟩ := hx
          simp only [SV.R] at hx
          obtain ⟨us, hv, hus⟩ := hx
          exact ⟨v, vs', rfl, ⟨us, hv, SkL.of_R l' cs a us ha hus⟩, SkL.of_R l xs b vs' hb hl⟩
        · cases h
      · rw [if_neg hf] at h
        cases h
    | _ => simp [SkL.of] at h
  | .cons (.const c) l, x :: xs, y, vs, h, hx => by
    obtain ⟨hs, h⟩ := SkL.of_const (c := c) (l := l) h
    simp only [SV.RL] at hx
    obtain ⟨v, vs', rfl, hx, hl⟩ := hx
    exact ⟨v, vs', rfl, same_R hs hx, SkL.of_R l xs y vs' h hl⟩
  | .cons (.leaf p) l, x :: xs, y, vs, h, hx => by
    simp only [SkL.of] at h
    split at h
    · rename_i a b ha hb
      cases h
      simp only [SV.RL] at hx
      obtain ⟨v, vs', rfl, hx, hl⟩ := hx
      exact ⟨v, vs', rfl, Prim.R_sv p a v (Prim.of_R p x a v ha hx), SkL.of_R l xs b vs' hb hl⟩
    · cases h
  | .cons (.agg l') l, x :: xs, y, vs, h, hx => by
    cases x with
    | agg cs =>
      simp only [SkL.of] at h
      split at h
      · rename_i a b ha hb
        cases h
        simp only [SV.RL] at hx
        obtain ⟨v, vs', rfl, hx, hl⟩ := hx
        simp only [SV.R] at hx
        obtain ⟨us, hv, hus, h1⟩ := hx
        exact ⟨v, vs', rfl, ⟨us, hv, SkL.of_R l' cs a us ha hus, h1⟩, SkL.of_R l xs b vs' hb hl⟩
      · cases h
    | _ => simp [SkL.of] at h
  | .cons (.tup l') l, x :: xs, y, vs, h, hx => by
    cases x with
    | tup cs =>
      simp only [SkL.of] at h
      split at h
      · rename_i a b ha hb
        cases h
        simp only [SV.RL] at hx
        obtain ⟨v, vs', rfl, hx, hl⟩ := hx
        simp only [SV.R] at hx
        obtain ⟨us, hv, hus⟩ := hx
        exact ⟨v, vs', rfl, ⟨us, hv, SkL.of_R l' cs a us ha hus⟩, SkL.of_R l xs b vs' hb hl⟩
      · cases h
    | _ => simp [SkL.of] at h
end
end

/-! ### objects -/

inductive OSk where
  | cells (l : SkL)
  | row (e : TypeId) (r : Row)
  | froz (e : TypeId) (r : Row)
  | gone

def OSk.T : OSk → Type
  | .cells l => l.T
  | .row _ r => List r.T
  | .froz _ r => List r.T
  | .gone => Unit

def OSk.ob : (o : OSk) → o.T → Ob
  | .cells l, x => .cells (l.svs x)
  | .row e r, x => .row e r x
  | .froz e r, x => .froz e r x
  | .gone, _ => .gone

def OSk.of : (o : OSk) → Ob → Option o.T
  | .cells l, .cells cs => l.of cs
  | .row e r, .row e' r' xs => if h : r' = r then (if e' = e then some (castRow h xs) else none) else none
  | .froz e r, .froz e' r' xs => if h : r' = r then (if e' = e then some (castRow h xs) else none) else none
  | .gone, .gone => some ()
  | _, _ => none

theorem OSk.of_row {e e' : TypeId} {r r' : Row} {xs : List r'.T} : (OSk.row e r).of (.row e' r' xs) = (if h : r' = r then (if e' = e then some (castRow h xs) else none) else none : Option (List r.T)) := rfl
theorem OSk.of_froz {e e' : TypeId} {r r' : Row} {xs : List r'.T} : (OSk.froz e r).of (.froz e' r' xs) = (if h : r' = r then (if e' = e then some (castRow h xs) else none) else none : Option (List r.T)) := rfl

theorem OSk.row_R {w : World} {A : Nat → Prop} {β : Loc} {l : LK} {e e' : TypeId} {r r' : Row} {xs : List r'.T} {y : List r.T} (h : ∃ h : r' = r, e' = e ∧ y = castRow h xs) (hx : ObR w A β l (.row e' r' xs)) : ObR w A β l (.row e r y) := by
  obtain ⟨rfl, rfl, rfl⟩ := h
  exact hx
theorem OSk.froz_R {w : World} {A : Nat → Prop} {β : Loc} {l : LK} {e e' : TypeId} {r r' : Row} {xs : List r'.T} {y : List r.T} (h : ∃ h : r' = r, e' = e ∧ y = castRow h xs) (hx : ObR w A β l (.froz e' r' xs)) : ObR w A β l (.froz e r y) := by
  obtain ⟨rfl, rfl, rfl⟩ := h
  exact hx

theorem OSk.of_R {w : World} {A : Nat → Prop} {β : Loc} {l : LK} : (o : OSk) → (x : Ob) → (y : o.T) → o.of x = some y → ObR w A β l x → ObR w A β l (o.ob y)
  | .cells s, .cells cs, y, h, hx => by
    cases l with
    | box b =>
      obtain ⟨vs, t, hh, hrl, h1⟩ := hx
      exact ⟨vs, t, hh, SkL.of_R s cs y _ h hrl, h1⟩
    | _ => exact hx.elim
  | .row e r, .row e' r' xs, y, h, hx => OSk.row_R (rowCast (OSk.of_row.symm.trans h)) hx
  | .froz e r, .froz e' r' xs, y, h, hx => OSk.froz_R (rowCast (OSk.of_froz.symm.trans h)) hx
  | .gone, .gone, y, h, hx => hx
  | .cells _, .row _ _ _, y, h, hx => by cases h
  | .cells _, .froz _ _ _, y, h, hx => by cases h
  | .cells _, .gone, y, h, hx => by cases h
  | .row _ _, .cells _, y, h, hx => by cases h
  | .row _ _, .froz _ _ _, y, h, hx => by cases h
  | .row _ _, .gone, y, h, hx => by cases h
  | .froz _ _, .cells _, y, h, hx => by cases h
  | .froz _ _, .row _ _ _, y, h, hx => by cases h
  | .froz _ _, .gone, y, h, hx => by cases h
  | .gone, .cells _, y, h, hx => by cases h
  | .gone, .row _ _ _, y, h, hx => by cases h
  | .gone, .froz _ _ _, y, h, hx => by cases h

abbrev MSk := List (Nat × OSk)

def MSk.T : MSk → Type
  | [] => Unit
  | (_, o) :: l => o.T × MSk.T l

def MSk.mem : (s : MSk) → s.T → Mem
  | [], _ => []
  | (k, o) :: l, x => (k, o.ob x.1) :: MSk.mem l x.2

def MSk.keys : MSk → List Nat
  | [] => []
  | (k, _) :: l => k :: MSk.keys l

def MSk.ofs (m : Mem) : (s : MSk) → Option s.T
  | [] => some ()
  | (k, o) :: l => match m.get k with
    | some x => match o.of x, MSk.ofs m l with
      | some a, some b => some (a, b)
      | _, _ => none
    | none => none

def MSk.of (s : MSk) (m : Mem) : Option s.T :=
  if (names m).all s.keys.contains = true ∧ distinct s.keys = true then s.ofs m else none

theorem MSk.ofs_get {m : Mem} : (s : MSk) → (y : s.T) → s.ofs m = some y → distinct s.keys = true → ∀ k o', (s.mem y).get k = some o' → ∃ x o a, m.get k = some x ∧ OSk.of o x = some a ∧ o' = o.ob a
  | [], y, h, _, k, o', hg => by cases hg
  | (q, o) :: l, y, h, hd, k, o', hg => by
    simp only [MSk.ofs] at h
    split at h
    · rename_i x hx
      split at h
      · rename_i a b ha hb
        cases h
        simp only [MSk.keys, distinct, Bool.and_eq_true] at hd
        simp only [MSk.mem, Mem.get] at hg
        split at hg
        · rename_i hk
          subst hk
          cases hg
          exact ⟨x, o, a, hx, ha, rfl⟩
        · exact MSk.ofs_get l b hb hd.2 k o' hg
      · cases h
    · cases h

theorem MSk.mem_keys : (s : MSk) → (y : s.T) → names (s.mem y) = s.keys
  | [], _ => rfl
  | (k, o) :: l, y => by simp [MSk.mem, names, MSk.keys, MSk.mem_keys l y.2]

theorem MSk.of_MR {w : World} {Z : Nat → Prop} {β : Loc} {m : Mem} (s : MSk) (y : s.T) (h : s.of m = some y) (hm : MR w Z β m) : MR w Z β (s.mem y) := by
  unfold MSk.of at h
  split at h
  · rename_i hc
    obtain ⟨hall, hd⟩ := hc
    have hkeys : ∀ k, k ∈ names (s.mem y) ↔ k ∈ s.keys := fun k => by rw [MSk.mem_keys]
    refine ⟨fun k o' hk => ?_, fun k l hl => ?_, hm.inj, hm.apart, hm.old⟩
    · obtain ⟨x, o, a, hx, ha, rfl⟩ := MSk.ofs_get s y h hd k o' hk
      obtain ⟨l, hl, hob⟩ := hm.obs k x hx
      exact ⟨l, hl, OSk.of_R o x a ha hob⟩
    · obtain ⟨o, ho⟩ := hm.dom k l hl
      have : k ∈ s.keys := by
        have := List.all_eq_true.1 hall k (names_get.2 ⟨o, ho⟩)
        simpa using this
      exact names_get.1 ((hkeys k).2 this)
  · cases h

/-! ### what is exactly so -/

def Prim.exact : Prim → SV → Bool
  | .int k, .int k' _ => decide (k = k')
  | .bool, .bool _ => true
  | .str, .str _ => true
  | .slc e r, .ps e' r' _ => decide (e' = e) && decide (r' = r)
  | _, _ => false

def SV.alive : SV → Bool
  | .dead => false
  | _ => true

mutual
def Sk.exact : Sk → SV → Bool
  | .const c, x => c.alive && c.same x
  | .leaf p, x => p.exact x
  | .agg l, .agg cs => l.exact cs
  | .tup l, .tup cs => l.exact cs
  | .fn f l, .fn f' cs => decide (f = f') && l.exact cs
  | .agg _, _ => false
  | .tup _, _ => false
  | .fn _ _, _ => false
def SkL.exact : SkL → List SV → Bool
  | .nil, [] => true
  | .cons s l, x :: xs => s.exact x && l.exact xs
  | .nil, _ :: _ => false
  | .cons _ _, [] => false
end

theorem Prim.exact_sv {p : Prim} {x : SV} {y : p.T} (h : p.exact x = true) (hy : p.of [] x = some y) : p.sv y = x := by
  cases p with
  | int k =>
    cases x with
    | int k' n =>
      simp only [Prim.exact, decide_eq_true_eq] at h
      subst h
      have hy : (if k = k then some n else none) = some y := hy
      rw [if_pos rfl] at hy
      cases hy
      rfl
    | _ => cases h
  | bool => cases x with
    | bool b => cases hy; rfl
    | _ => cases h
  | str => cases x with
    | str b => cases hy; rfl
    | _ => cases h
  | slc e r => cases x with
    | ps e' r' xs =>
      simp only [Prim.exact, Bool.and_eq_true, decide_eq_true_eq] at h
      obtain ⟨rfl, rfl⟩ := h
      obtain ⟨h1, h2, h3⟩ := rowCast hy
      subst h3
      rfl
    | _ => cases h

theorem SV.same_eq {c x : SV} (ha : c.alive = true) (h : c.same x = true) : c = x := by
  unfold SV.same at h
  split at h
  · cases ha
  · rfl
  · rfl
  · rfl
  · rfl
  · rfl
  · rfl
  · simp at h; subst h; rfl
  · simp at h; obtain ⟨⟨rfl, rfl⟩, rfl⟩ := h; rfl
  · simp at h; obtain ⟨⟨rfl, rfl⟩, rfl⟩ := h; rfl
  · simp at h; subst h; rfl
  · simp at h; subst h; rfl
  · cases h

mutual
theorem Sk.exact_sv : (s : Sk) → (x : SV) → (y : s.T) → s.exact x = true → s.of x = some y → s.sv y = x
  | .const c, x, y, h, hy => by
    simp only [Sk.exact, Bool.and_eq_true] at h
    exact SV.same_eq h.1 h.2
  | .leaf p, x, y, h, hy => Prim.exact_sv h hy
  | .agg l, x, y, h, hy => by
    cases x with
    | agg cs => simp only [Sk.sv]; rw [SkL.exact_sv l cs y h hy]
    | _ => cases h
  | .tup l, x, y, h, hy => by
    cases x with
    | tup cs => simp only [Sk.sv]; rw [SkL.exact_sv l cs y h hy]
    | _ => cases h
  | .fn f l, x, y, h, hy => by
    cases x with
    | fn f' cs =>
      simp only [Sk.exact, Bool.and_eq_true, decide_eq_true_eq] at h
      obtain ⟨rfl, h⟩ := h
      have hy : (if f = f then l.of cs else none) = some y := hy
      rw [if_pos rfl] at hy
      simp only [Sk.sv]; rw [SkL.exact_sv l cs y h hy]
    | _ => cases h
theorem SkL.exact_sv : (l : SkL) → (xs : List SV) → (y : l.T) → l.exact xs = true → l.of xs = some y → l.svs y = xs
  | .nil, [], y, _, _ => rfl
  | .nil, _ :: _, y, h, _ => by cases h
  | .cons _ _, [], y, h, _ => by simp [SkL.exact] at h
  | .cons (.const c) l, x :: xs, y, h, hy => by
    simp only [SkL.exact, Sk.exact, Bool.and_eq_true] at h
    obtain ⟨_, hy⟩ := SkL.of_const hy
    simp only [SkL.svs]
    rw [SV.same_eq h.1.1 h.1.2, SkL.exact_sv l xs y h.2 hy]
  | .cons (.leaf p) l, x :: xs, y, h, hy => by
    simp only [SkL.exact, Sk.exact, Bool.and_eq_true] at h
    simp only [SkL.of] at hy
    split at hy
    · rename_i a b ha hb
      cases hy
      simp only [SkL.svs]
      rw [Prim.exact_sv h.1 ha, SkL.exact_sv l xs b h.2 hb]
    · cases hy
  | .cons (.agg l') l, x :: xs, y, h, hy => by
    cases x with
    | agg cs =>
      simp only [SkL.exact, Sk.exact, Bool.and_eq_true] at h
      simp only [SkL.of] at hy
      split at hy
      · rename_i a b ha hb
        cases hy
        simp only [SkL.svs]
        rw [SkL.exact_sv l' cs a h.1 ha, SkL.exact_sv l xs b h.2 hb]
      · cases hy
    | _ => simp [SkL.exact, Sk.exact] at h
  | .cons (.tup l') l, x :: xs, y, h, hy => by
    cases x with
    | tup cs =>
      simp only [SkL.exact, Sk.exact, Bool.and_eq_true] at h
      simp only [SkL.of] at hy
      split at hy
      · rename_i a b ha hb
        cases hy
        simp only [SkL.svs]
        rw [SkL.exact_sv l' cs a h.1 ha, SkL.exact_sv l xs b h.2 hb]
      · cases hy
    | _ => simp [SkL.exact, Sk.exact] at h
  | .cons (.fn f l') l, x :: xs, y, h, hy => by
    cases x with
    | fn f' cs =>
      simp only [SkL.exact, Sk.exact, Bool.and_eq_true, decide_eq_true_eq] at h
      obtain ⟨⟨rfl, h1⟩, h2⟩ := h
      have hy : (if f = f then (match l'.of cs, l.of xs with | some a, some b => some (a, b) | _, _ => none) else none : Option (l'.T × l.T)) = some y := hy
      rw [if_pos rfl] at hy
      split at hy
      · rename_i a b ha hb
        cases hy
        simp only [SkL.svs]
        rw [SkL.exact_sv l' cs a h1 ha, SkL.exact_sv l xs b h2 hb]
      · cases hy
    | _ => simp [SkL.exact, Sk.exact] at h
end

def OSk.exact : OSk → Ob → Bool
  | .cells l, .cells cs => l.exact cs
  | .row e r, .row e' r' _ => decide (e' = e) && decide (r' = r)
  | .froz e r, .froz e' r' _ => decide (e' = e) && decide (r' = r)
  | .gone, .gone => true
  | _, _ => false

theorem OSk.exact_ob {o : OSk} {x : Ob} {y : o.T} (h : o.exact x = true) (hy : o.of x = some y) : o.ob y = x := by
  cases o with
  | cells l => cases x with
    | cells cs => simp only [OSk.ob]; rw [SkL.exact_sv l cs y h hy]
    | _ => cases h
  | row e r => cases x with
    | row e' r' xs =>
      simp only [OSk.exact, Bool.and_eq_true, decide_eq_true_eq] at h
      obtain ⟨rfl, rfl⟩ := h
      obtain ⟨h1, h2, h3⟩ := rowCast (OSk.of_row.symm.trans hy)
      subst h3
      rfl
    | _ => cases h
  | froz e r => cases x with
    | froz e' r' xs =>
      simp only [OSk.exact, Bool.and_eq_true, decide_eq_true_eq] at h
      obtain ⟨rfl, rfl⟩ := h
      obtain ⟨h1, h2, h3⟩ := rowCast (OSk.of_froz.symm.trans hy)
      subst h3
      rfl
    | _ => cases h
  | gone => cases x with
    | gone => rfl
    | _ => cases h

/-- Are these objects exactly so? -/
def MSk.exactOn (kept : List Nat) (m : Mem) : MSk → Bool
  | [] => true
  | (k, o) :: l => (match kept.contains k with
    | true => match m.get k with
      | some x => o.exact x
      | none => false
    | false => true) && MSk.exactOn kept m l

theorem MSk.exactOn_get {kept : List Nat} {m : Mem} {k : Nat} (hk : k ∈ kept) : ∀ (s : MSk) (y : s.T), s.exactOn kept m = true → s.ofs m = some y → k ∈ s.keys → (s.mem y).get k = m.get k
  | [], y, _, _, h => by cases h
  | (q, o) :: l, y, he, hy, h => by
    simp only [MSk.exactOn, Bool.and_eq_true] at he
    simp only [MSk.ofs] at hy
    split at hy
    · rename_i x hx
      split at hy
      · rename_i a b ha hb
        cases hy
        simp only [MSk.mem, Mem.get]
        by_cases hq : k = q
        · subst hq
          rw [if_pos rfl]
          have h1 := he.1
          rw [show kept.contains k = true by simpa using hk, hx] at h1
          rw [hx, OSk.exact_ob h1 ha]
        · rw [if_neg hq]
          rcases List.mem_cons.1 h with h | h
          · exact (hq h).elim
          · exact MSk.exactOn_get hk l b he.2 hb h
      · cases hy
    · cases hy

/-! ### functions -/


structure OutC where
  res : Sk
  mem : MSk

def OutC.T (o : OutC) : Type := o.res.T × o.mem.T

def OutsT : List OutC → Type
  | [] => Empty
  | [o] => o.T
  | o :: o' :: l => o.T ⊕ OutsT (o' :: l)

def outsGet : (l : List OutC) → OutsT l → SV × Mem
  | [o], x => (o.res.sv x.1, o.mem.mem x.2)
  | o :: _ :: _, .inl x => (o.res.sv x.1, o.mem.mem x.2)
  | _ :: o' :: l, .inr x => outsGet (o' :: l) x

def outsRun {α : Type} : (l : List OutC) → OutsT l → (SV → Mem → Option α) → Option α
  | [], _, _ => none
  | [o], x, K => K (o.res.sv x.1) (o.mem.mem x.2)
  | o :: o' :: l, x, K => Sum.elim (α := o.T) (β := OutsT (o' :: l)) (fun x => K (o.res.sv x.1) (o.mem.mem x.2)) (fun x => outsRun (o' :: l) x K) x

theorem outsRun_eq {α : Type} : (l : List OutC) → (x : OutsT l) → (K : SV → Mem → Option α) → outsRun l x K = K (outsGet l x).1 (outsGet l x).2
  | [o], x, K => rfl
  | o :: _ :: _, .inl x, K => rfl
  | _ :: o' :: l, .inr x, K => outsRun_eq (o' :: l) x K

structure Con where
  args : SkL
  mem : MSk
  outs : List OutC
  F : args.T → mem.T → Option (OutsT outs)

/-- The objects that some outcome does not tell of: they are as they were. -/
def Con.kept (c : Con) : List Nat := c.mem.keys.filter fun k => c.outs.any fun o => !o.mem.keys.contains k

def Con.run {α : Type} (c : Con) (args : List SV) (m : Mem) (K : SV → Mem → Option α) : Option α :=
  match c.args.of args, c.mem.of m with
  | some a, some b => match c.mem.exactOn c.kept m with
    | true => (c.F a b).bind fun r => outsRun c.outs r K
    | false => none
  | _, _ => none

theorem outsGet_keys : (l : List OutC) → (r : OutsT l) → ∃ o, o ∈ l ∧ names (outsGet l r).2 = o.mem.keys
  | [o], x => ⟨o, by simp, MSk.mem_keys o.mem x.2⟩
  | o :: o' :: l, .inl x => ⟨o, by simp, MSk.mem_keys o.mem x.2⟩
  | o :: o' :: l, .inr x => by
    obtain ⟨o2, h1, h2⟩ := outsGet_keys (o' :: l) x
    exact ⟨o2, List.mem_cons_of_mem _ h1, h2⟩

def ConOK (P : Program) (f : FuncId) (c : Con) : Prop := ∀ a b r, c.F a b = some r → CallOK P f (c.args.svs a) (c.mem.mem b) (outsGet c.outs r).1 (outsGet c.outs r).2

theorem Con.run_nat {α : Type} (c : Con) (args : List SV) (m : Mem) (K : SV → Mem → Option α) : c.run args m K = (c.run args m fun v m' => some (v, m')).bind fun p => K p.1 p.2 := by
  unfold Con.run
  split
  · split
    · rw [Option.bind_assoc]
      congr 1
      funext r
      rw [outsRun_eq, outsRun_eq]
      rfl
    · rfl
  · rfl

theorem Con.run_ok {P : Program} {f : FuncId} {c : Con} (hc : ConOK P f c) {args : List SV} {m : Mem} {v : SV} {m' : Mem} (h : c.run args m (fun v m' => some (v, m')) = some (v, m')) : CallOK P f args m v m' := by
  unfold Con.run at h
  split at h
  · rename_i a b ha hb
    split at h
    rotate_left
    · cases h
    rename_i hex
    obtain ⟨r, hr, h⟩ := Option.bind_eq_some_iff.1 h
    rw [outsRun_eq] at h
    simp only [Option.some.injEq, Prod.mk.injEq] at h
    obtain ⟨rfl, rfl⟩ := h
    intro w Z β vs hm hx
    refine (hc a b r hr w Z β vs (MSk.of_MR c.mem b hb hm) (SkL.of_R c.args args a vs ha hx)).mono fun u w' ⟨β', h1, h2, h3⟩ => ⟨β', h1, ?_, h3⟩
    have hall : (names m).all c.mem.keys.contains = true ∧ distinct c.mem.keys = true ∧ c.mem.ofs m = some b := by
      unfold MSk.of at hb
      split at hb
      · rename_i hc2; exact ⟨hc2.1, hc2.2, hb⟩
      · cases hb
    obtain ⟨hall, hdis, hofs⟩ := hall
    refine h2.congr fun q => ?_
    by_cases hq : q ∈ names (outsGet c.outs r).2
    · exact sets_in _ _ _ hq
    · rw [sets_out _ _ hq, sets_out _ _ hq]
      by_cases hk : q ∈ c.mem.keys
      · have hkept : q ∈ c.kept := by
          unfold Con.kept
          refine List.mem_filter.2 ⟨hk, ?_⟩
          obtain ⟨o, ho, he⟩ := outsGet_keys c.outs r
          rw [he] at hq
          exact List.any_eq_true.2 ⟨o, ho, by simpa using hq⟩
        exact (MSk.exactOn_get hkept c.mem b hex hofs hk).symm
      · have e1 : m.get q = none := by
          cases hg : m.get q with
          | none => rfl
          | some o =>
            have := List.all_eq_true.1 hall q (names_get.2 ⟨o, hg⟩)
            exact (hk (by simpa using this)).elim
        have e2 : (c.mem.mem b).get q = none := by
          cases hg : (c.mem.mem b).get q with
          | none => rfl
          | some o =>
            have := names_get.2 ⟨o, hg⟩
            rw [MSk.mem_keys] at this
            exact (hk this).elim
        rw [e1, e2]
  · cases h

/-- A contract that tells less of memory. -/
theorem con_keep {P : Program} {f : FuncId} {args : SkL} {mem : MSk} {outs outs' : List OutC} {F : args.T → mem.T → Option (OutsT outs)} {F' : args.T → mem.T → Option (OutsT outs')} (h : ConOK P f ⟨args, mem, outs, F⟩)
    (hF : ∀ a b r', F' a b = some r' → ∃ r, F a b = some r ∧ (outsGet outs' r').1 = (outsGet outs r).1 ∧ ∀ q, ((mem.mem b).sets (outsGet outs' r').2).get q = ((mem.mem b).sets (outsGet outs r).2).get q) : ConOK P f ⟨args, mem, outs', F'⟩ := by
  intro a b r' hr' w Z β vs hm hx
  obtain ⟨r, hr, h1, h2⟩ := hF a b r' hr'
  refine (h a b r hr w Z β vs hm hx).mono fun u w' ⟨β', k1, k2, k3⟩ => ⟨β', k1, k2.congr h2, ?_⟩
  show SV.R _ _ _ (outsGet outs' r').1 _
  rw [h1]
  exact k3

/-- A function that only reads. -/
theorem con_reads {P : Program} {f : FuncId} {args : SkL} {mem : MSk} {res : Sk} {F : args.T → mem.T → Option (OutsT [⟨res, mem⟩])} (h : ConOK P f ⟨args, mem, [⟨res, mem⟩], F⟩) (hd : distinct mem.keys = true) (hF : ∀ a b r, F a b = some r → r.2 = b) :
    ConOK P f ⟨args, mem, [⟨res, []⟩], fun a b => (F a b).map fun r => (r.1, ())⟩ := by
  refine con_keep h fun a b r' hr' => ?_
  obtain ⟨r, hr, rfl⟩ := Option.map_eq_some_iff.1 hr'
  refine ⟨r, hr, rfl, fun q => ?_⟩
  have := hF a b r hr
  show ((mem.mem b).sets []).get q = ((mem.mem b).sets (mem.mem r.2)).get q
  rw [this]
  have key : ∀ (l m : Mem), (∀ k o, (k, o) ∈ l → m.get k = some o) → (m.sets l).get q = m.get q := by
    intro l
    induction l with
    | nil => intro m _; rfl
    | cons x l ih =>
      obtain ⟨k, o⟩ := x
      intro m hl
      simp only [Mem.sets]
      have hk := hl k o List.mem_cons_self
      have e : ∀ j, (m.set k o).get j = m.get j := by
        intro j
        rw [Mem.get_set]
        split
        · rename_i hj; rw [hj, hk]
        · rfl
      rw [ih _ fun k' o' h' => by rw [e]; exact hl k' o' (List.mem_cons_of_mem _ h'), e]
  have hd : (names (mem.mem b)).Nodup := by rw [MSk.mem_keys]; exact distinct_nodup hd
  exact (key _ _ fun k o hk => get_of_mem hd hk).symm

/-! ### loops -/

structure OutL where
  out : Out
  tmps : SkL
  mem : MSk

def OutL.T (o : OutL) : Type := o.tmps.T × o.mem.T

def OutLsT : List OutL → Type
  | [] => Empty
  | [o] => o.T
  | o :: o' :: l => o.T ⊕ OutLsT (o' :: l)

def outLsGet : (l : List OutL) → OutLsT l → Out × St
  | [o], x => (o.out, ⟨o.tmps.svs x.1, o.mem.mem x.2⟩)
  | o :: _ :: _, .inl x => (o.out, ⟨o.tmps.svs x.1, o.mem.mem x.2⟩)
  | _ :: o' :: l, .inr x => outLsGet (o' :: l) x

def outLsRun {α : Type} : (l : List OutL) → OutLsT l → (Out → St → Option α) → Option α
  | [], _, _ => none
  | [o], x, K => K o.out ⟨o.tmps.svs x.1, o.mem.mem x.2⟩
  | o :: o' :: l, x, K => Sum.elim (α := o.T) (β := OutLsT (o' :: l)) (fun x => K o.out ⟨o.tmps.svs x.1, o.mem.mem x.2⟩) (fun x => outLsRun (o' :: l) x K) x

theorem outLsRun_eq {α : Type} : (l : List OutL) → (x : OutLsT l) → (K : Out → St → Option α) → outLsRun l x K = K (outLsGet l x).1 (outLsGet l x).2
  | [o], x, K => rfl
  | o :: _ :: _, .inl x, K => rfl
  | _ :: o' :: l, .inr x, K => outLsRun_eq (o' :: l) x K

/-- Rounds, till there is an answer. -/
def runN {S R : Type} (step : S → Option (S ⊕ R)) : Nat → S → Option R
  | 0, _ => none
  | n + 1, s => (step s).bind fun
    | .inl s' => runN step n s'
    | .inr r => some r

open Classical in
noncomputable def runL {S R : Type} (step : S → Option (S ⊕ R)) (s : S) : Option R :=
  if h : ∃ n r, runN step n s = some r then some h.choose_spec.choose else none

theorem runN_mono {S R : Type} {step : S → Option (S ⊕ R)} : ∀ {n k : Nat} {s : S} {r : R}, n ≤ k → runN step n s = some r → runN step k s = some r
  | 0, k, s, r, _, h => by cases h
  | n + 1, 0, s, r, hk, h => by omega
  | n + 1, k + 1, s, r, hk, h => by
    simp only [runN] at h ⊢
    obtain ⟨x, hx, h⟩ := Option.bind_eq_some_iff.1 h
    rw [hx]
    cases x with
    | inl s' => exact runN_mono (by omega) h
    | inr r' => exact h

theorem runL_of {S R : Type} {step : S → Option (S ⊕ R)} {n : Nat} {s : S} {r : R} (h : runN step n s = some r) : runL step s = some r := by
  unfold runL
  have hex : ∃ n r, runN step n s = some r := ⟨n, r, h⟩
  rw [dif_pos hex]
  have h2 := hex.choose_spec.choose_spec
  have h3 := runN_mono (Nat.le_max_left hex.choose n) h2
  have h4 := runN_mono (Nat.le_max_right hex.choose n) h
  rw [h3] at h4
  exact h4

theorem runL_some {S R : Type} {step : S → Option (S ⊕ R)} {s : S} {r : R} (h : runL step s = some r) : ∃ n, runN step n s = some r := by
  unfold runL at h
  split at h
  · rename_i hex
    cases h
    exact ⟨_, hex.choose_spec.choose_spec⟩
  · cases h

/-- The loop's own law. -/
theorem runL_eq {S R : Type} (step : S → Option (S ⊕ R)) (s : S) : runL step s = (step s).bind fun
    | .inl s' => runL step s'
    | .inr r => some r := by
  cases hs : step s with
  | none =>
    cases hr : runL step s with
    | none => rfl
    | some r =>
      obtain ⟨n, hn⟩ := runL_some hr
      cases n with
      | zero => cases hn
      | succ n => simp [runN, hs] at hn
  | some x =>
    cases x with
    | inr r => exact runL_of (n := 1) (by simp [runN, hs])
    | inl s' =>
      simp only [Option.bind_some]
      cases hr : runL step s' with
      | some r =>
        obtain ⟨n, hn⟩ := runL_some hr
        exact runL_of (n := n + 1) (by simp [runN, hs, hn])
      | none =>
        cases hr2 : runL step s with
        | none => rfl
        | some r =>
          obtain ⟨n, hn⟩ := runL_some hr2
          cases n with
          | zero => cases hn
          | succ n =>
            simp only [runN, hs, Option.bind_some] at hn
            rw [runL_of hn] at hr
            cases hr

structure LCon where
  tmps : SkL
  mem : MSk
  outs : List OutL
  F : tmps.T → mem.T → Option (OutLsT outs)

def LCon.st (c : LCon) (p : c.tmps.T × c.mem.T) : St := ⟨c.tmps.svs p.1, c.mem.mem p.2⟩

def LCon.run {α : Type} (c : LCon) (st : St) (K : Out → St → Option α) : Option α :=
  match c.tmps.of st.tmps, c.mem.of st.mem with
  | some a, some b => (c.F a b).bind fun r => outLsRun c.outs r K
  | _, _ => none

def LConOK (P : Program) (b : C2) (c : LCon) : Prop := ∀ x y r, c.F x y = some r → LoopOK P b (c.st (x, y)) (outLsGet c.outs r).1 (outLsGet c.outs r).2

theorem LCon.run_nat {α : Type} (c : LCon) (st : St) (K : Out → St → Option α) : c.run st K = (c.run st fun o s => some (o, s)).bind fun p => K p.1 p.2 := by
  unfold LCon.run
  split
  · rw [Option.bind_assoc]
    congr 1
    funext r
    rw [outLsRun_eq, outLsRun_eq]
    rfl
  · rfl

theorem SkL.svs_len : (l : SkL) → (xs : List SV) → (y : l.T) → l.of xs = some y → (l.svs y).length = xs.length
  | .nil, [], y, h => rfl
  | .nil, _ :: _, y, h => by simp [SkL.of] at h
  | .cons (.const _) _, [], y, h => by simp [SkL.of] at h
  | .cons (.leaf _) _, [], y, h => by simp [SkL.of] at h
  | .cons (.agg _) _, [], y, h => by simp [SkL.of] at h
  | .cons (.tup _) _, [], y, h => by simp [SkL.of] at h
  | .cons (.fn _ _) _, [], y, h => by simp [SkL.of] at h
  | .cons (.fn f l') l, x :: xs, y, h => by
    cases x with
    | fn f' cs =>
      have h : (if f = f' then (match l'.of cs, l.of xs with | some a, some b => some (a, b) | _, _ => none) else none : Option (l'.T × l.T)) = some y := h
      by_cases hf : f = f'
      · rw [if_pos hf] at h
        split at h
        · rename_i a b ha hb
          cases h
          simp [SkL.svs, SkL.svs_len l xs b hb]
        · cases h
      · rw [if_neg hf] at h
        cases h
    | _ => simp [SkL.of] at h
  | .cons (.const c) l, x :: xs, y, h => by
    obtain ⟨hs, h⟩ := SkL.of_const (c := c) (l := l) h
    have := SkL.svs_len l xs y h
    simp only [SkL.svs, List.length_cons]
    rw [this]
  | .cons (.leaf p) l, x :: xs, y, h => by
    simp only [SkL.of] at h
    split at h
    · rename_i a b ha hb
      cases h
      simp [SkL.svs, SkL.svs_len l xs b hb]
    · cases h
  | .cons (.agg l') l, x :: xs, y, h => by
    cases x with
    | agg cs =>
      simp only [SkL.of] at h
      split at h
      · rename_i a b ha hb
        cases h
        simp [SkL.svs, SkL.svs_len l xs b hb]
      · cases h
    | _ => simp [SkL.of] at h
  | .cons (.tup l') l, x :: xs, y, h => by
    cases x with
    | tup cs =>
      simp only [SkL.of] at h
      split at h
      · rename_i a b ha hb
        cases h
        simp [SkL.svs, SkL.svs_len l xs b hb]
      · cases h
    | _ => simp [SkL.of] at h

theorem RL_getD {w : World} {A : Nat → Prop} {β : Loc} {l : List SV} {vs : List Value} (h : SV.RL w A β l vs) (i : Nat) : (l.getD i .dead).R w A β (vs.getD i undef) := by
  cases hx : l[i]? with
  | none => simp [List.getD, hx, SV.R]
  | some x =>
    obtain ⟨v, hv, hr⟩ := SV.RL_get _ _ h i x hx
    simpa [List.getD, hx, hv] using hr

theorem FR.of {w : World} {A : Nat → Prop} {β : Loc} {l : SkL} {ts : List SV} {a : Act} (hF : FR w A β ts a) {y : l.T} (h : l.of ts = some y) : FR w A β (l.svs y) a := by
  have hRL : SV.RL w A β ts a.tmps.toList := SV.RL_of_get _ _ (by simpa using hF.len) fun i x v hx hv => by
    have := hF.val i
    simpa [List.getD, hx, show a.tmps[i]? = some v by simpa using hv] using this
  refine ⟨by rw [SkL.svs_len l ts y h]; exact hF.len, fun i => ?_, hF.defers⟩
  have := RL_getD (SkL.of_R l ts y _ h hRL) i
  simpa [List.getD] using this

theorem LCon.run_ok {P : Program} {b : C2} {c : LCon} (hc : LConOK P b c) {st st' : St} {o : Out} (h : c.run st (fun o s => some (o, s)) = some (o, st')) : LoopOK P b st o st' := by
  unfold LCon.run at h
  split at h
  · rename_i x y hx hy
    obtain ⟨r, hr, h⟩ := Option.bind_eq_some_iff.1 h
    rw [outLsRun_eq] at h
    simp only [Option.some.injEq, Prod.mk.injEq] at h
    obtain ⟨rfl, rfl⟩ := h
    intro an cd hcd w Z β a Q hF hm hQ
    exact hc x y r hr an cd hcd w Z β a Q (hF.of hx) (MSk.of_MR c.mem y hy hm) hQ
  · cases h

/-! ### a table -/

def find {α : Type} (k : Nat) : List (Nat × α) → Option α
  | [] => none
  | (q, x) :: l => if k = q then some x else find k l

theorem find_mem {α : Type} {k : Nat} {x : α} : ∀ {l : List (Nat × α)}, find k l = some x → (k, x) ∈ l
  | [], h => by cases h
  | (q, y) :: l, h => by
    simp only [find] at h
    split at h
    · rename_i hk
      cases h
      subst hk
      exact List.mem_cons_self
    · exact List.mem_cons_of_mem _ (find_mem h)

/-- The first contract of a function that fits. -/
def runCons {α : Type} (f : Nat) (args : List SV) (m : Mem) (K : SV → Mem → Option α) : List (Nat × Con) → Option α
  | [] => none
  | (q, c) :: l => match Nat.beq f q with
    | true => match c.args.of args, c.mem.of m with
      | some a, some b => match c.mem.exactOn c.kept m with
        | true => (c.F a b).bind fun r => outsRun c.outs r K
        | false => runCons f args m K l
      | _, _ => runCons f args m K l
    | false => runCons f args m K l

theorem runCons_nat {α : Type} {f : Nat} {args : List SV} {m : Mem} (K : SV → Mem → Option α) : ∀ (l : List (Nat × Con)), runCons f args m K l = (runCons f args m (fun v m' => some (v, m')) l).bind fun p => K p.1 p.2
  | [] => rfl
  | (q, c) :: l => by
    simp only [runCons]
    split
    · split
      · split
        · rw [Option.bind_assoc]
          congr 1
          funext r
          rw [outsRun_eq, outsRun_eq]
          rfl
        · exact runCons_nat K l
      · exact runCons_nat K l
    · exact runCons_nat K l

theorem runCons_ok {P : Program} {f : Nat} {args : List SV} {m m' : Mem} {v : SV} : ∀ (l : List (Nat × Con)), (∀ p, p ∈ l → ConOK P p.1 p.2) → runCons f args m (fun v m' => some (v, m')) l = some (v, m') → CallOK P f args m v m'
  | [], _, h => by cases h
  | (q, c) :: l, hl, h => by
    simp only [runCons] at h
    split at h
    · rename_i hq
      obtain rfl : f = q := Nat.eq_of_beq_eq_true hq
      split at h
      · rename_i a b ha hb
        split at h
        · rename_i hex
          refine Con.run_ok (hl (f, c) List.mem_cons_self) ?_
          unfold Con.run
          rw [ha, hb]
          dsimp only
          rw [hex]
          exact h
        · exact runCons_ok l (fun p hp => hl p (List.mem_cons_of_mem _ hp)) h
      · exact runCons_ok l (fun p hp => hl p (List.mem_cons_of_mem _ hp)) h
    · exact runCons_ok l (fun p hp => hl p (List.mem_cons_of_mem _ hp)) h

/-- What is said of functions and of loops, in one. -/
def table (calls : List (Nat × Con)) (loops : List (Nat × LCon)) : CB where
  call f args m K := runCons f args m K calls
  loop an b st K := match find an.id loops with
    | some c => c.run st K
    | none => none

theorem table_nat (calls : List (Nat × Con)) (loops : List (Nat × LCon)) : (table calls loops).Nat where
  call f args m K := runCons_nat K calls
  loop an b st K := by
    simp only [table]
    cases find an.id loops with
    | none => rfl
    | some c => exact c.run_nat st K
end Go.Proofs.Ytgfanlafbjbkaaa.S2
