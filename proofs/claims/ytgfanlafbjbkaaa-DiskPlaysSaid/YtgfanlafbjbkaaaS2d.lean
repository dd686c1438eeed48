/-
  S2, fourth part: memory; what one operation may turn; naturality (an operation hands its outcome on, whatever follows).
-/
import Derived.Test.YtgfanlafbjbkaaaS2c
set_option linter.unusedVariables false
set_option linter.unusedSimpArgs false
namespace Go.Proofs.Ytgfanlafbjbkaaa.S2
open Go

def RowsR (w : World) (A : Nat → Prop) (r : Row) (xs : List r.T) (cells : List Value) : Prop :=
  ∀ j (h : j < xs.length), r.R w A (xs.get ⟨j, h⟩) ((cells.drop (j * r.size)).take r.size)

theorem RowsR.stays {w w' : World} {A A' : Nat → Prop} {r : Row} {xs : List r.T} {cells : List Value} (h : RowsR w A r xs cells) (hs : Stays w w' A A') : RowsR w' A' r xs cells :=
  fun j hj => Row.R_stays hs r _ _ (h j hj)

def ObR (w : World) (A : Nat → Prop) (β : Loc) (l : LK) (o : Ob) : Prop :=
  match l, o with
  | .box b, .cells cs => ∃ vs t, w.heap[b]? = some (.cells vs t (0, 0)) ∧ SV.RL w A β cs vs.toList ∧ ∀ u ∈ vs.toList, u.oneCell' = true
  | .row ad cap n sz e, .row e' r xs => e = e' ∧ sz = r.size ∧ 0 < sz ∧ n = xs.length ∧ ∃ cells, w.ownsRow 0 e sz (.slice (atG ad) n cap) n cells ∧ RowsR w A r xs cells
  | .froz ad cap n sz e, .froz e' r xs => e = e' ∧ sz = r.size ∧ n = xs.length ∧ (Prim.slc e r).R w A xs (.slice (atG ad) n cap)
  | .gone, .gone => True
  | _, _ => False

structure MR (w : World) (Z : Nat → Prop) (β : Loc) (m : Mem) : Prop where
  obs : ∀ k o, m.get k = some o → ∃ l, β k = some l ∧ ObR w (β.away Z) β l o
  dom : ∀ k l, β k = some l → ∃ o, m.get k = some o
  inj : ∀ k k' l l' b, β k = some l → β k' = some l' → l.own = some b → l'.own = some b → k = k'
  apart : ∀ b, β.owned b → ¬ Z b
  old : ∀ b, Z b → b < w.heap.size

theorem MR.none {w : World} {Z : Nat → Prop} {β : Loc} {m : Mem} (h : MR w Z β m) {k : Nat} (hk : m.get k = none) : β k = none := by
  cases hb : β k with
  | none => rfl
  | some l => obtain ⟨o, ho⟩ := h.dom k l hb; rw [hk] at ho; cases ho

theorem own_lt {w : World} {A : Nat → Prop} {β : Loc} {l : LK} {o : Ob} (h : ObR w A β l o) {b : Nat} (hb : l.own = some b) : b < w.heap.size := by
  cases l with
  | box c =>
    cases o with
    | cells cs =>
      obtain ⟨vs, t, hh, _⟩ := h
      simp [LK.own] at hb
      subst hb
      exact (Array.getElem?_eq_some_iff.1 hh).1
    | _ => exact h.elim
  | row ad cap n sz e =>
    cases o with
    | row e' r xs =>
      obtain ⟨_, _, _, _, cells, ho, _⟩ := h
      simp [LK.own] at hb
      subst hb
      exact (ho.lt b (by simp [Value.ownBlock, atG])).2
    | _ => exact h.elim
  | froz => simp [LK.own] at hb
  | gone => simp [LK.own] at hb

theorem MR.lt {w : World} {Z : Nat → Prop} {β : Loc} {m : Mem} (h : MR w Z β m) {b : Nat} (hb : β.owned b) : b < w.heap.size := by
  obtain ⟨k, l, hl, ho⟩ := hb
  obtain ⟨o, hm⟩ := h.dom k l hl
  obtain ⟨l', hl', hr⟩ := h.obs k o hm
  rw [hl] at hl'
  cases hl'
  exact own_lt hr ho

/-- From one world to another: what may turn is what the frame owns. -/
structure Step (w w' : World) (β β' : Loc) : Prop where
  os : w'.os = w.os
  tape : w'.tape = w.tape
  output : w'.output = w.output
  size : w.heap.size ≤ w'.heap.size
  block : ∀ b, b < w.heap.size → ¬ β.owned b → w'.heap[b]? = w.heap[b]?
  own : ∀ b, β'.owned b → β.owned b ∨ w.heap.size ≤ b
  le : β.le β'

theorem Step.refl (w : World) (β : Loc) : Step w w β β := ⟨rfl, rfl, rfl, Nat.le_refl _, fun _ _ _ => rfl, fun _ h => .inl h, Loc.le_refl β⟩

theorem Step.trans {w w1 w2 : World} {β β1 β2 : Loc} (h : Step w w1 β β1) (k : Step w1 w2 β1 β2) : Step w w2 β β2 :=
  ⟨k.os.trans h.os, k.tape.trans h.tape, k.output.trans h.output, Nat.le_trans h.size k.size,
    fun b hb ho => (k.block b (Nat.lt_of_lt_of_le hb h.size) (fun h1 => (h.own b h1).elim ho (by omega))).trans (h.block b hb ho),
    fun b hb => (k.own b hb).elim (fun h1 => h.own b h1) (fun h1 => .inr (Nat.le_trans h.size h1)), Loc.le_trans h.le k.le⟩

theorem Step.stays {w w' : World} {β β' : Loc} (h : Step w w' β β') {Z : Nat → Prop} : Stays w w' (β.away Z) (β'.away Z) :=
  ⟨h.size, fun b hb hA => ⟨h.block b hb fun ho => hA (.inl ho), fun hA' => by
    rcases hA' with ho | hz
    · rcases h.own b ho with h1 | h1
      · exact hA (.inl h1)
      · omega
    · exact hA (.inr hz)⟩⟩

theorem Step.drew {w w' : World} {β β' : Loc} (h : Step w w' β β') : Step w w'.drew β β' := ⟨h.os, h.tape, h.output, h.size, h.block, h.own, h.le⟩

/-- An object that is not written stays what it is. -/
theorem ObR.kept {w w' : World} {A A' : Nat → Prop} {β β' : Loc} {l : LK} {o : Ob} (h : ObR w A β l o) (hs : Stays w w' A A') (hb : β.le β') (hk : ∀ b, l.own = some b → w'.heap[b]? = w.heap[b]?) :
    ObR w' A' β' l o := by
  cases l with
  | box c =>
    cases o with
    | cells cs =>
      obtain ⟨vs, t, hh, hl, h1⟩ := h
      exact ⟨vs, t, (hk c rfl).trans hh, SV.RL_step hs hb cs _ hl, h1⟩
    | _ => exact h.elim
  | row ad cap n sz e =>
    cases o with
    | row e' r xs =>
      obtain ⟨he, hsz, h0, hn, cells, ho, hr⟩ := h
      refine ⟨he, hsz, h0, hn, cells, ?_, hr.stays hs⟩
      obtain ⟨h1, h2⟩ := ho
      refine ⟨h1, ?_⟩
      rcases h2 with h2 | ⟨g, cap', cur, hv, hg, hh, rest⟩
      · exact .inl h2
      · refine .inr ⟨g, cap', cur, hv, hg, (hk g ?_).trans hh, rest⟩
        cases ad with
        | none => simp [atG] at hv
        | some g' => simp [atG] at hv; simp [LK.own, hv]
    | _ => exact h.elim
  | froz ad cap n sz e =>
    cases o with
    | froz e' r xs =>
      obtain ⟨he, hsz, hn, hr⟩ := h
      exact ⟨he, hsz, hn, Prim.R_stays hs (.slc e r) xs _ hr⟩
    | _ => exact h.elim
  | gone =>
    cases o with
    | gone => trivial
    | _ => exact h.elim

/-! ### the table of names -/

theorem Mem.get_set (m : Mem) (k : Nat) (o : Ob) (q : Nat) : (m.set k o).get q = if q = k then some o else m.get q := by
  induction m with
  | nil => simp [Mem.set, Mem.get]
  | cons x m ih =>
    obtain ⟨k', o'⟩ := x
    by_cases h : k = k'
    · subst h
      simp only [Mem.set, if_true, Mem.get]
      by_cases hq : q = k <;> simp [hq]
    · simp only [Mem.set, if_neg h, Mem.get, ih]
      by_cases hq : q = k'
      · subst hq; simp [Ne.symm h]
      · simp [hq]

theorem Mem.get_sets (l : List (Nat × Ob)) : ∀ (m : Mem) (q : Nat), (∀ o, (q, o) ∉ l) → (m.sets l).get q = m.get q := by
  induction l with
  | nil => intro m q _; rfl
  | cons x l ih =>
    obtain ⟨k, o⟩ := x
    intro m q h
    simp only [Mem.sets]
    rw [ih _ q (fun o' ho' => h o' (by simp [ho'])), Mem.get_set, if_neg (fun e => h o (by simp [e]))]

/-! ### naturality -/

theorem chk_some {α : Type} {b : Bool} {k : Option α} {r : α} (h : chk b k = some r) : b = true ∧ k = some r := by
  cases b <;> simp [chk] at h ⊢
  exact h

theorem bind_chk {α γ : Type} (b : Bool) (k : Option α) (f : α → Option γ) : (chk b k).bind f = chk b (k.bind f) := by cases b <;> rfl

theorem boolOp_nat {α : Type} (op : BinOp) (x y : Bool) (K : SV → Option α) : boolOp op x y K = (boolOp op x y some).bind K := by cases op <;> rfl
theorem strOp_nat {α : Type} (op : BinOp) (x y : ByteArray) (K : SV → Option α) : strOp op x y K = (strOp op x y some).bind K := by
  cases op <;> simp only [strOp, bind_chk] <;> rfl
theorem intOp_nat {α : Type} (op : BinOp) (k : IntKind) (x y : Int) (K : SV → Option α) : intOp op k x y K = (intOp op k x y some).bind K := by
  cases op <;> simp only [intOp, bind_chk] <;> rfl
theorem shOp_nat {α : Type} (op : BinOp) (k : IntKind) (x y : Int) (K : SV → Option α) : shOp op k x y K = (shOp op k x y some).bind K := by
  cases op <;> simp only [shOp, bind_chk] <;> rfl
theorem nilTest_nat {α : Type} (op : BinOp) (b : Bool) (K : SV → Option α) : nilTest op b K = (nilTest op b some).bind K := by cases op <;> rfl
theorem pickx_nat {α : Type} (t : Bool) (a b : SV) (K : SV → Option α) : pickx t a b K = (pickx t a b some).bind K := by cases t <;> rfl

theorem ite_nat {α : Type} {p : Prop} [Decidable p] {x : Option α} {y : Option SV} {K : SV → Option α} (h : x = y.bind K) : (if p then x else none) = (if p then y else none).bind K := by
  split
  · exact h
  · rfl

theorem binx_nat {α : Type} (tk : TK) (op : BinOp) (x y : SV) (K : SV → Option α) : binx tk op x y K = (binx tk op x y some).bind K := by
  unfold binx
  split
  · split
    · exact shOp_nat ..
    · exact ite_nat (intOp_nat ..)
  · exact strOp_nat ..
  · exact ite_nat (boolOp_nat ..)
  · exact ite_nat (nilTest_nat ..)
  · exact ite_nat (nilTest_nat ..)
  · exact ite_nat (nilTest_nat ..)
  · exact ite_nat (nilTest_nat ..)
  · exact ite_nat (nilTest_nat ..)
  · exact ite_nat (by rw [bind_chk, ← nilTest_nat])
  · rfl

theorem bounds_nat {α : Type} (n : Nat) (lo hi : Option SV) (K : Nat → Nat → Option α) : bounds n lo hi K = (bounds n lo hi fun l h => some (l, h)).bind fun p => K p.1 p.2 := by
  unfold bounds
  split <;> first | (simp only [bind_chk]; rfl) | rfl

theorem cutx_nat {α : Type} (sz : Option Nat) (x : SV) (lo hi : Option SV) (m : Mem) (K : SV → Option α) : cutx sz x lo hi m K = (cutx sz x lo hi m some).bind K := by
  unfold cutx
  cases sz with
  | none =>
    dsimp only
    split
    · rw [bounds_nat]; conv => rhs; rw [bounds_nat]
      rw [Option.bind_assoc]; rfl
    · rfl
  | some sz =>
    dsimp only
    split
    · rfl
    · split
      all_goals first
        | rfl
        | (rw [bounds_nat]; conv => rhs; rw [bounds_nat]
           rw [Option.bind_assoc]; rfl)

theorem idxx_nat {α : Type} (sz : Nat) (x i : SV) (m : Mem) (K : SV → Option α) : idxx sz x i m K = (idxx sz x i m some).bind K := by
  unfold idxx
  split
  · split
    · rfl
    · split <;> first | (simp only [bind_chk]; rfl) | rfl
  · rfl

theorem ivx_nat {α : Type} (x i : SV) (K : SV → Option α) : ivx x i K = (ivx x i some).bind K := by
  unfold ivx
  split <;> first | (simp only [bind_chk]; rfl) | rfl

theorem someV_nat {α : Type} (v : Option SV) (K : Eff → Option α) : someV v K = (someV v some).bind K := by cases v <;> rfl
theorem someE_nat {α : Type} (v : Option Eff) (K : Eff → Option α) : someE v K = (someE v some).bind K := by cases v <;> rfl

theorem ite_nat' {α γ : Type} {p : Prop} [Decidable p] {x : Option α} {y : Option γ} {K : γ → Option α} (h : x = y.bind K) : (if p then x else none) = (if p then y else none).bind K := by
  split
  · exact h
  · rfl

theorem appx_nat {α : Type} (d : Nat) (e : TypeId) (r : Row) (bytes : Nat) (s x : SV) (m : Mem) (K : Eff → Option α) : appx d e r bytes s x m K = (appx d e r bytes s x m some).bind K := by
  unfold appx
  split
  · rfl
  · split
    · exact ite_nat' (by simp only [bind_chk]; rfl)
    · split
      · split
        · exact ite_nat' (by simp only [bind_chk]; rfl)
        · rfl
      · rfl
    · split
      · split
        · exact ite_nat' (by simp only [bind_chk]; rfl)
        · rfl
      · rfl
    · rfl

theorem growx_nat {α : Type} (d : Nat) (e : TypeId) (r : Row) (bytes : Nat) (s x : SV) (m : Mem) (K : Eff → Option α) : growx d e r bytes s x m K = (growx d e r bytes s x m some).bind K := by
  unfold growx
  split
  · exact ite_nat' (by simp only [bind_chk]; rfl)
  · rfl

theorem mkx_nat {α : Type} (d : Nat) (e : TypeId) (r : Row) (bytes : Nat) (s x : SV) (m : Mem) (K : Eff → Option α) : mkx d e r bytes s x m K = (mkx d e r bytes s x m some).bind K := by
  unfold mkx
  split
  · exact ite_nat' (by simp only [bind_chk]; rfl)
  · rfl

/-- Calls and loops hand their outcome on, too. -/
structure CB.Nat (cb : CB) : Prop where
  call : ∀ {α : Type} (f : FuncId) (args : List SV) (m : Mem) (K : SV → Mem → Option α), cb.call f args m K = (cb.call f args m fun v m' => some (v, m')).bind fun p => K p.1 p.2
  loop : ∀ {α : Type} (an : LAnn) (b : C2) (st : St) (K : Out → St → Option α), cb.loop an b st K = (cb.loop an b st fun o s => some (o, s)).bind fun p => K p.1 p.2

theorem callx_nat {α : Type} {cb : CB} (hc : cb.Nat) (byRef : FuncId → CC) (d : Nat) (f : FuncId) (args : List SV) (m : Mem) (K : Eff → Option α) :
    callx cb byRef d f args m K = (callx cb byRef d f args m some).bind K := by
  unfold callx callWith
  split
  · rw [hc.call]
    conv => rhs; rw [hc.call]
    rw [Option.bind_assoc]
    congr 1
    funext p
    cases callBack d args (callLent byRef f args m) (callKeys (callArgs byRef f args m) m) m p.1 p.2 <;> rfl
  · rfl

theorem callx2_nat {α : Type} {cb : CB} (hc : cb.Nat) (byRef : FuncId → CC) (d : Nat) (f : FuncId) (args : List SV) (m : Mem) (K : Eff → Option α) :
    callx2 cb byRef d f args m K = (callx2 cb byRef d f args m some).bind K := by
  unfold callx2
  rw [callx_nat hc]
  conv => rhs; rw [callx_nat hc]
  rw [Option.bind_assoc]
  rfl

theorem opx_nat {α : Type} {cb : CB} (hc : cb.Nat) (byRef : FuncId → CC) (d : Nat) (op : O2) (ts : List SV) (m : Mem) (K : Eff → Option α) :
    opx cb byRef d op ts m K = (opx cb byRef d op ts m some).bind K := by
  have hb : ∀ {β γ δ : Type} (o : Option β) (f : β → Option γ) (g : γ → Option δ), (o.bind f).bind g = o.bind fun x => (f x).bind g := fun o f g => Option.bind_assoc o f g
  cases op with
  | mov x => rfl
  | pick c a b =>
    simp only [opx]
    split
    · rw [pickx_nat]; conv => rhs; rw [pickx_nat]
      rw [hb]; rfl
    · rfl
  | alloc zs => simp only [opx]; split <;> rfl
  | box n x => simp only [opx]; split <;> rfl
  | build zs parts => simp only [opx]; split <;> rfl
  | lit e r parts => exact someE_nat _ _
  | ld n x => exact someE_nat _ _
  | st n x v => exact someE_nat _ _
  | nilck x => simp only [opx]; split <;> rfl
  | eqs neg ks x y => exact someV_nat _ _
  | bin tk op x y =>
    simp only [opx]
    rw [binx_nat]; conv => rhs; rw [binx_nat]
    rw [hb]; rfl
  | un op x => exact someV_nat _ _
  | conv k x => simp only [opx]; split <;> rfl
  | b2s e x => simp only [opx]; split <;> rfl
  | sid x => simp only [opx]; split <;> rfl
  | cut sz x lo hi =>
    simp only [opx]
    rw [cutx_nat]; conv => rhs; rw [cutx_nat]
    rw [hb]; rfl
  | fa x off => simp only [opx]; split <;> rfl
  | fv x off n =>
    simp only [opx]
    split
    · exact someV_nat _ _
    · split <;> rfl
    · rfl
  | ia sz x i =>
    simp only [opx]
    rw [idxx_nat]; conv => rhs; rw [idxx_nat]
    rw [hb]; rfl
  | iv x i =>
    simp only [opx]
    rw [ivx_nat]; conv => rhs; rw [ivx_nat]
    rw [hb]; rfl
  | ext x i =>
    simp only [opx]
    split
    · exact someV_nat _ _
    · rfl
  | call f args => exact callx2_nat hc ..
  | callv x args =>
    simp only [opx]
    split
    · exact callx2_nat hc ..
    · rfl
  | len k x => simp only [opx]; split <;> rfl
  | app e r bytes s x => exact appx_nat ..
  | mn x y => simp only [opx]; split <;> rfl
  | mx x y => simp only [opx]; split <;> rfl
  | mkfn f cap => rfl
  | grow e r bytes s n => exact growx_nat ..
  | mk e r bytes n c => exact mkx_nat ..
  | no => rfl
end Go.Proofs.Ytgfanlafbjbkaaa.S2
