/-
  S2, third part: what a plain value, object, memory is in a world of the model; what lasts.
-/
import Derived.Test.YtgfanlafbjbkaaaS2b
import Derived.Below
import Derived.Laws.AppendOwn
import Derived.Laws.OwnMore
import Derived.Laws.MakeOwn
import Derived.Laws.Rows
import Derived.Laws.Cells
import Derived.Laws.Slices
import Derived.WalkKit
set_option linter.unusedVariables false
set_option linter.unusedSimpArgs false
namespace Go.Proofs.Ytgfanlafbjbkaaa.S2
open Go

theorem add_add (a : Addr) (m n : Nat) : (a.add m).add n = a.add (m + n) := by
  unfold Addr.add
  by_cases h : m = 0 <;> by_cases h' : n = 0 <;> simp [h, h']
  omega

theorem add_mk (g o n : Nat) : (⟨g, o, none⟩ : Addr).add n = ⟨g, o + n, none⟩ := by unfold Addr.add; split <;> simp_all

theorem add_block (a : Addr) (n : Nat) : (a.add n).block = a.block := by unfold Addr.add; split <;> rfl

/-! ### lists that nobody writes -/

/-- No capacity without a place. -/
def CapOk (ad : Option Addr) (n cap : Nat) : Prop := n ≤ cap ∧ (ad = none → cap = 0)

mutual
def Prim.R (w : World) (A : Nat → Prop) : (p : Prim) → p.T → Value → Prop
  | .int k, n, v => v = .int k n
  | .bool, b, v => v = .bool b
  | .str, s, v => v = .string s
  | .slc _ r, xs, v => ∃ ad cap, v = .slice ad (List.length (α := r.T) xs) cap ∧ CapOk ad (List.length (α := r.T) xs) cap ∧
      ∀ j (h : j < List.length (α := r.T) xs), ∃ a cs, ad = some a ∧ ¬ A a.block ∧ a.block < w.heap.size ∧ cs.length = r.size ∧
        (∀ i u, cs[i]? = some u → w.cell? (a.add (j * r.size + i)) = some u) ∧ r.R w A (List.get (α := r.T) xs ⟨j, h⟩) cs
def Row.R (w : World) (A : Nat → Prop) : (r : Row) → r.T → List Value → Prop
  | .nil, _, cs => cs = []
  | .cons p .nil, x, cs => ∃ v, cs = [v] ∧ p.R w A x v
  | .cons p (.cons q r), x, cs => ∃ v vs, cs = v :: vs ∧ p.R w A x.1 v ∧ (Row.cons q r).R w A x.2 vs
end

/-- What is not avoided stays, and stays so. -/
def Stays (w w' : World) (A A' : Nat → Prop) : Prop :=
  w.heap.size ≤ w'.heap.size ∧ ∀ b, b < w.heap.size → ¬ A b → w'.heap[b]? = w.heap[b]? ∧ ¬ A' b

theorem Stays.refl (w : World) (A : Nat → Prop) : Stays w w A A := ⟨Nat.le_refl _, fun _ _ h => ⟨rfl, h⟩⟩
theorem Stays.trans {w w1 w2 : World} {A A1 A2 : Nat → Prop} (h : Stays w w1 A A1) (k : Stays w1 w2 A1 A2) : Stays w w2 A A2 :=
  ⟨Nat.le_trans h.1 k.1, fun b hb hA => by
    obtain ⟨e, h1⟩ := h.2 b hb hA
    obtain ⟨e', h2⟩ := k.2 b (Nat.lt_of_lt_of_le hb h.1) h1
    exact ⟨e'.trans e, h2⟩⟩

theorem cell_stays {w w' : World} {A A' : Nat → Prop} (h : Stays w w' A A') {a : Addr} {v : Value} (hc : w.cell? a = some v) (hA : ¬ A a.block) : w'.cell? a = some v := by
  rw [← hc]
  exact World.cell?_of_block (h.2 _ (World.block_lt_of_cell? w a hc) hA).1

mutual
theorem Prim.R_stays {w w' : World} {A A' : Nat → Prop} (h : Stays w w' A A') : (p : Prim) → (x : p.T) → (v : Value) → p.R w A x v → p.R w' A' x v
  | .int k, n, v, e => e
  | .bool, b, v, e => e
  | .str, s, v, e => e
  | .slc e r, xs, v, hr => by
    simp only [Prim.R] at hr ⊢
    obtain ⟨ad, cap, hv, hcap, hx⟩ := hr
    refine ⟨ad, cap, hv, hcap, fun j hj => ?_⟩
    obtain ⟨a, cs, ha, hA, hlt, hl, hc, hR⟩ := hx j hj
    exact ⟨a, cs, ha, (h.2 _ hlt hA).2, Nat.lt_of_lt_of_le hlt h.1, hl, fun i u hu => cell_stays h (hc i u hu) (by rw [add_block]; exact hA), Row.R_stays h r _ _ hR⟩
theorem Row.R_stays {w w' : World} {A A' : Nat → Prop} (h : Stays w w' A A') : (r : Row) → (x : r.T) → (cs : List Value) → r.R w A x cs → r.R w' A' x cs
  | .nil, _, cs, e => e
  | .cons p .nil, x, cs, hr => by
    simp only [Row.R] at hr ⊢
    obtain ⟨v, hv, hp⟩ := hr
    exact ⟨v, hv, Prim.R_stays h p _ _ hp⟩
  | .cons p (.cons q r), x, cs, hr => by
    simp only [Row.R] at hr ⊢
    obtain ⟨v, vs, hv, hp, hr⟩ := hr
    exact ⟨v, vs, hv, Prim.R_stays h p _ _ hp, Row.R_stays h (.cons q r) _ _ hr⟩
end

theorem Prim.R_one {w : World} {A : Nat → Prop} : (p : Prim) → (x : p.T) → (v : Value) → p.R w A x v → v.oneCell' = true
  | .int k, n, v, e => by simp only [Prim.R] at e; subst e; rfl
  | .bool, b, v, e => by simp only [Prim.R] at e; subst e; rfl
  | .str, s, v, e => by simp only [Prim.R] at e; subst e; rfl
  | .slc e r, xs, v, hr => by simp only [Prim.R] at hr; obtain ⟨ad, cap, hv, _⟩ := hr; subst hv; rfl

theorem Row.R_len {w : World} {A : Nat → Prop} : (r : Row) → (x : r.T) → (cs : List Value) → r.R w A x cs → cs.length = r.size ∧ ∀ u ∈ cs, u.oneCell' = true
  | .nil, _, cs, e => by simp only [Row.R] at e; subst e; simp [Row.size]
  | .cons p .nil, x, cs, hr => by
    simp only [Row.R] at hr
    obtain ⟨v, hv, hp⟩ := hr
    subst hv
    simp [Row.size, Prim.R_one p _ _ hp]
  | .cons p (.cons q r), x, cs, hr => by
    simp only [Row.R] at hr
    obtain ⟨v, vs, hv, hp, hr⟩ := hr
    subst hv
    have := Row.R_len (.cons q r) _ _ hr
    refine ⟨by simp [this.1, Row.size], fun u hu => ?_⟩
    rcases List.mem_cons.1 hu with rfl | hu
    · exact Prim.R_one p _ _ hp
    · exact this.2 u hu

/-! ### where objects lie -/

inductive LK where
  | box (b : Nat)
  | row (ad : Option Nat) (cap n sz : Nat) (e : TypeId)
  | froz (ad : Option Nat) (cap n sz : Nat) (e : TypeId)
  | gone

abbrev Loc := Nat → Option LK

def LK.own : LK → Option Nat
  | .box b => some b
  | .row ad _ _ _ _ => ad
  | _ => none

def Loc.owned (β : Loc) (b : Nat) : Prop := ∃ k l, β k = some l ∧ l.own = some b

/-- What lists that nobody writes keep away from. -/
def Loc.away (β : Loc) (Z : Nat → Prop) (b : Nat) : Prop := β.owned b ∨ Z b

def atG (ad : Option Nat) : Option Addr := ad.map fun g => ⟨g, 0, none⟩

def pieceOf (ad : Option Nat) (cap n sz off len : Nat) (v : Value) : Prop :=
  ∃ A c, v = .slice A len c ∧ len ≤ c ∧ off + len ≤ n ∧ off + c = cap ∧ ((c ≠ 0 ∨ off = 0) → A = ad.map fun g => ⟨g, off * sz, none⟩)

def LK.piece (l : LK) (off len : Nat) (v : Value) : Prop :=
  match l with
  | .row ad cap n sz _ => pieceOf ad cap n sz off len v
  | .froz ad cap n sz _ => pieceOf ad cap n sz off len v
  | .gone => ∃ A c, v = .slice A len c ∧ len ≤ c
  | .box _ => False

/-- All of it. -/
def LK.whole (l : LK) (v : Value) : Prop :=
  match l with
  | .row ad cap n sz _ => pieceOf ad cap n sz 0 n v
  | .froz ad cap n sz _ => pieceOf ad cap n sz 0 n v
  | .gone => ∃ A n c, v = .slice A n c ∧ n ≤ c
  | .box _ => False

def LK.addr (l : LK) (i fo : Nat) (v : Value) : Prop :=
  match l with
  | .box b => v = .pointer (some ⟨b, i + fo, none⟩)
  | .row (some g) _ n sz _ => i < n ∧ v = .pointer (some ⟨g, i * sz + fo, none⟩)
  | .froz (some g) _ n sz _ => i < n ∧ v = .pointer (some ⟨g, i * sz + fo, none⟩)
  | .gone => ∃ A, v = .pointer (some A)
  | _ => False

/-- What an object may become: it is the same, a row that is frozen, or gone. -/
inductive LK.le : LK → LK → Prop where
  | refl (l : LK) : LK.le l l
  | gone (l : LK) (h : ∀ b, l ≠ .box b) : LK.le l .gone
  | froz (ad : Option Nat) (cap n sz : Nat) (e : TypeId) : LK.le (.row ad cap n sz e) (.froz ad cap n sz e)

theorem LK.le.trans {a b c : LK} (h : a.le b) (k : b.le c) : a.le c := by
  cases h with
  | refl => exact k
  | gone _ h => cases k with
    | refl => exact .gone _ h
    | gone => exact .gone _ h
  | froz => cases k with
    | refl => exact .froz ..
    | gone => exact .gone _ (by intro b h; cases h)

theorem LK.piece_le {l l' : LK} (h : l.le l') {off len : Nat} {v : Value} (hp : l.piece off len v) : l'.piece off len v := by
  cases h with
  | refl => exact hp
  | gone =>
    cases l with
    | box b => exact hp.elim
    | row => obtain ⟨A, c, hv, hc, _⟩ := hp; exact ⟨A, c, hv, hc⟩
    | froz => obtain ⟨A, c, hv, hc, _⟩ := hp; exact ⟨A, c, hv, hc⟩
    | gone => exact hp
  | froz => exact hp

theorem LK.whole_le {l l' : LK} (h : l.le l') {v : Value} (hp : l.whole v) : l'.whole v := by
  cases h with
  | refl => exact hp
  | gone =>
    cases l with
    | box b => exact hp.elim
    | row => obtain ⟨A, c, hv, hc, _⟩ := hp; exact ⟨A, _, c, hv, hc⟩
    | froz => obtain ⟨A, c, hv, hc, _⟩ := hp; exact ⟨A, _, c, hv, hc⟩
    | gone => exact hp
  | froz => exact hp

theorem LK.addr_le {l l' : LK} (h : l.le l') {i fo : Nat} {v : Value} (hp : l.addr i fo v) : l'.addr i fo v := by
  cases h with
  | refl => exact hp
  | gone _ hb =>
    cases l with
    | box b => exact (hb b rfl).elim
    | row ad => cases ad with
      | none => exact hp.elim
      | some g => exact ⟨_, hp.2⟩
    | froz ad => cases ad with
      | none => exact hp.elim
      | some g => exact ⟨_, hp.2⟩
    | gone => exact hp
  | froz ad => cases ad with
    | none => exact hp
    | some g => exact hp

def Loc.le (β β' : Loc) : Prop := ∀ k l, β k = some l → ∃ l', β' k = some l' ∧ l.le l'
theorem Loc.le_refl (β : Loc) : β.le β := fun k l h => ⟨l, h, .refl l⟩
theorem Loc.le_trans {a b c : Loc} (h : a.le b) (k : b.le c) : a.le c := fun q l hl => by
  obtain ⟨l1, h1, e1⟩ := h q l hl
  obtain ⟨l2, h2, e2⟩ := k q l1 h1
  exact ⟨l2, h2, e1.trans e2⟩

/-! ### values -/

mutual
def SV.R (w : World) (A : Nat → Prop) (β : Loc) : SV → Value → Prop
  | .dead, _ => True
  | .int k n, v => v = .int k n
  | .bool b, v => v = .bool b
  | .str s, v => v = .string s
  | .sl k off len, v => ∃ l, β k = some l ∧ l.piece off len v
  | .slw k, v => ∃ l, β k = some l ∧ l.whole v
  | .ps e r xs, v => (Prim.slc e r).R w A xs v
  | .nils, v => v = .slice none 0 0
  | .pe, v => ∃ a cap, v = .slice (some a) 0 cap
  | .ptr k i fo, v => ∃ l, β k = some l ∧ l.addr i fo v
  | .pptr _ r xs i fo, v => ∃ (h : i < xs.length) (a : Addr) (cs : List Value), v = .pointer (some (a.add fo)) ∧ ¬ A a.block ∧ a.block < w.heap.size ∧ cs.length = r.size ∧
      (∀ j u, cs[j]? = some u → w.cell? (a.add j) = some u) ∧ r.R w A (xs.get ⟨i, h⟩) cs
  | .nilp, v => v = .pointer none
  | .agg cs, v => ∃ vs : List Value, v = .agg vs.toArray ∧ SV.RL w A β cs vs ∧ ∀ u ∈ vs, u.oneCell' = true
  | .tup cs, v => ∃ vs : List Value, v = .tuple vs.toArray ∧ SV.RL w A β cs vs
  | .fn f cs, v => ∃ vs : List Value, v = .func (.func f) #[] vs.toArray ∧ SV.RL w A β cs vs
  | .nilf, v => v = .nilFunc
  | .nili, v => v = .nilIface
  | .nilm, v => v = .map none
def SV.RL (w : World) (A : Nat → Prop) (β : Loc) : List SV → List Value → Prop
  | [], vs => vs = []
  | x :: l, vs => ∃ v vs', vs = v :: vs' ∧ x.R w A β v ∧ SV.RL w A β l vs'
end

section
variable {w w' : World} {A A' : Nat → Prop} {β β' : Loc}

mutual
theorem SV.R_step (h : Stays w w' A A') (hb : β.le β') : (x : SV) → (v : Value) → x.R w A β v → x.R w' A' β' v
  | .dead, _, _ => trivial
  | .int k n, v, e => e
  | .bool b, v, e => e
  | .str s, v, e => e
  | .sl k off len, v, hr => by
    simp only [SV.R] at hr ⊢
    obtain ⟨l, hl, hp⟩ := hr
    obtain ⟨l', hl', hle⟩ := hb k l hl
    exact ⟨l', hl', LK.piece_le hle hp⟩
  | .slw k, v, hr => by
    simp only [SV.R] at hr ⊢
    obtain ⟨l, hl, hp⟩ := hr
    obtain ⟨l', hl', hle⟩ := hb k l hl
    exact ⟨l', hl', LK.whole_le hle hp⟩
  | .ps e r xs, v, hr => by
    simp only [SV.R] at hr ⊢
    exact Prim.R_stays h (.slc e r) xs v hr
  | .nils, v, e => e
  | .pe, v, e => e
  | .ptr k i fo, v, hr => by
    simp only [SV.R] at hr ⊢
    obtain ⟨l, hl, hp⟩ := hr
    obtain ⟨l', hl', hle⟩ := hb k l hl
    exact ⟨l', hl', LK.addr_le hle hp⟩
  | .pptr _ r xs i fo, v, hr => by
    simp only [SV.R] at hr ⊢
    obtain ⟨hi, a, cs, hv, hA, hlt, hl, hc, hR⟩ := hr
    exact ⟨hi, a, cs, hv, (h.2 _ hlt hA).2, Nat.lt_of_lt_of_le hlt h.1, hl, fun j u hu => cell_stays h (hc j u hu) (by rw [add_block]; exact hA), Row.R_stays h r _ _ hR⟩
  | .nilp, v, e => e
  | .agg cs, v, hr => by
    simp only [SV.R] at hr ⊢
    obtain ⟨vs, hv, hl, h1⟩ := hr
    exact ⟨vs, hv, SV.RL_step h hb cs vs hl, h1⟩
  | .tup cs, v, hr => by
    simp only [SV.R] at hr ⊢
    obtain ⟨vs, hv, hl⟩ := hr
    exact ⟨vs, hv, SV.RL_step h hb cs vs hl⟩
  | .fn f cs, v, hr => by
    simp only [SV.R] at hr ⊢
    obtain ⟨vs, hv, hl⟩ := hr
    exact ⟨vs, hv, SV.RL_step h hb cs vs hl⟩
  | .nilf, v, e => e
  | .nili, v, e => e
  | .nilm, v, e => e
theorem SV.RL_step (h : Stays w w' A A') (hb : β.le β') : (l : List SV) → (vs : List Value) → SV.RL w A β l vs → SV.RL w' A' β' l vs
  | [], vs, e => e
  | x :: l, vs, hr => by
    simp only [SV.RL] at hr ⊢
    obtain ⟨v, vs', hv, hx, hl⟩ := hr
    exact ⟨v, vs', hv, SV.R_step h hb x v hx, SV.RL_step h hb l vs' hl⟩
end

theorem SV.RL_len : (l : List SV) → (vs : List Value) → SV.RL w A β l vs → vs.length = l.length
  | [], vs, e => by simp only [SV.RL] at e; subst e; rfl
  | x :: l, vs, hr => by
    simp only [SV.RL] at hr
    obtain ⟨v, vs', hv, _, hl⟩ := hr
    subst hv
    simp [SV.RL_len l vs' hl]

theorem SV.RL_get : (l : List SV) → (vs : List Value) → SV.RL w A β l vs → ∀ (i : Nat) (x : SV), l[i]? = some x → ∃ v, vs[i]? = some v ∧ x.R w A β v
  | [], vs, e, i, x, hx => by simp at hx
  | y :: l, vs, hr, i, x, hx => by
    simp only [SV.RL] at hr
    obtain ⟨v, vs', hv, hy, hl⟩ := hr
    subst hv
    cases i with
    | zero => simp at hx; subst hx; exact ⟨v, rfl, hy⟩
    | succ i => simpa using SV.RL_get l vs' hl i x (by simpa using hx)

theorem SV.RL_of_get : (l : List SV) → (vs : List Value) → vs.length = l.length → (∀ (i : Nat) (x : SV) (v : Value), l[i]? = some x → vs[i]? = some v → x.R w A β v) → SV.RL w A β l vs
  | [], vs, hl, _ => by simp only [SV.RL]; exact List.eq_nil_of_length_eq_zero hl
  | y :: l, [], hl, _ => by simp at hl
  | y :: l, v :: vs, hl, h => by
    simp only [SV.RL]
    exact ⟨v, vs, rfl, h 0 y v rfl rfl, SV.RL_of_get l vs (by simpa using hl) fun i x u hx hu => h (i + 1) x u (by simpa using hx) (by simpa using hu)⟩

theorem SV.RL_append : (l l' : List SV) → (vs vs' : List Value) → SV.RL w A β l vs → SV.RL w A β l' vs' → SV.RL w A β (l ++ l') (vs ++ vs')
  | [], l', vs, vs', e, h => by simp only [SV.RL] at e; subst e; exact h
  | x :: l, l', vs, vs', hr, h => by
    simp only [SV.RL] at hr
    obtain ⟨v, us, hv, hx, hl⟩ := hr
    subst hv
    simp only [List.cons_append, SV.RL]
    exact ⟨v, us ++ vs', rfl, hx, SV.RL_append l l' us vs' hl h⟩

theorem SV.RL_take : (n : Nat) → (l : List SV) → (vs : List Value) → SV.RL w A β l vs → SV.RL w A β (l.take n) (vs.take n)
  | 0, l, vs, h => by simp [SV.RL]
  | n + 1, [], vs, h => by simp only [SV.RL] at h; subst h; simp [SV.RL]
  | n + 1, x :: l, vs, hr => by
    simp only [SV.RL] at hr
    obtain ⟨v, us, hv, hx, hl⟩ := hr
    subst hv
    simp only [List.take_succ_cons, SV.RL]
    exact ⟨v, us.take n, rfl, hx, SV.RL_take n l us hl⟩

theorem SV.RL_drop : (n : Nat) → (l : List SV) → (vs : List Value) → SV.RL w A β l vs → SV.RL w A β (l.drop n) (vs.drop n)
  | 0, l, vs, h => by simpa using h
  | n + 1, [], vs, h => by simp only [SV.RL] at h; subst h; simp [SV.RL]
  | n + 1, x :: l, vs, hr => by
    simp only [SV.RL] at hr
    obtain ⟨v, us, hv, hx, hl⟩ := hr
    subst hv
    simpa using SV.RL_drop n l us hl
end

/-- The cells of a plain row are its values. -/
theorem Prim.R_sv {w : World} {A : Nat → Prop} {β : Loc} : (p : Prim) → (x : p.T) → (v : Value) → p.R w A x v → (p.sv x).R w A β v
  | .int k, n, v, e => e
  | .bool, b, v, e => e
  | .str, s, v, e => e
  | .slc e r, xs, v, hr => hr

theorem Row.R_svs {w : World} {A : Nat → Prop} {β : Loc} : (r : Row) → (x : r.T) → (cs : List Value) → r.R w A x cs → SV.RL w A β (r.svs x) cs
  | .nil, _, cs, e => e
  | .cons p .nil, x, cs, hr => by
    simp only [Row.R] at hr
    obtain ⟨v, hv, hp⟩ := hr
    simp only [Row.svs, SV.RL]
    exact ⟨v, [], hv, Prim.R_sv p _ _ hp, rfl⟩
  | .cons p (.cons q r), x, cs, hr => by
    simp only [Row.R] at hr
    obtain ⟨v, vs, hv, hp, hr⟩ := hr
    simp only [Row.svs, SV.RL]
    exact ⟨v, vs, hv, Prim.R_sv p _ _ hp, Row.R_svs (.cons q r) _ _ hr⟩

theorem Row.svs_len : (r : Row) → (x : r.T) → (r.svs x).length = r.size
  | .nil, _ => rfl
  | .cons p .nil, x => rfl
  | .cons p (.cons q r), x => by simp [Row.svs, Row.size, Row.svs_len (.cons q r) x.2]
end Go.Proofs.Ytgfanlafbjbkaaa.S2
