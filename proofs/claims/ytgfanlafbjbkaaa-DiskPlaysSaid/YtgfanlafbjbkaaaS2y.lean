/-
  S2, twenty-fifth part: a contract is so if the plain meaning says it.
-/
import Derived.Test.YtgfanlafbjbkaaaS2x
set_option linter.unusedVariables false
set_option linter.unusedSimpArgs false
namespace Go.Proofs.Ytgfanlafbjbkaaa.S2
open Go

def loopIds : List (LAnn × C2) → List Nat
  | [] => []
  | p :: l => p.1.id :: loopIds l

def loopTab : List (LAnn × C2) → List (Nat × C2)
  | [] => []
  | p :: l => (p.1.id, p.2) :: loopTab l

theorem tab_self : ∀ {l : List (LAnn × C2)}, distinct (loopIds l) = true → ∀ p, p ∈ l → find p.1.id (loopTab l) = some p.2
  | [], _, p, hp => by cases hp
  | q :: l, hd, p, hp => by
    simp only [loopIds, distinct, Bool.and_eq_true] at hd
    simp only [loopTab, find]
    rcases List.mem_cons.1 hp with rfl | hp
    · rw [if_pos rfl]
    · rw [if_neg]
      · exact tab_self hd.2 p hp
      · intro he
        have hin : ∀ {l : List (LAnn × C2)} {p}, p ∈ l → p.1.id ∈ loopIds l := by
          intro l
          induction l with
          | nil => intro p hp; cases hp
          | cons x l ih =>
            intro p hp
            rcases List.mem_cons.1 hp with rfl | hp
            · exact List.mem_cons_self
            · exact List.mem_cons_of_mem _ (ih hp)
        have := hin hp
        rw [he] at this
        simp [this] at hd

theorem tab_mem {id : Nat} {b : C2} : ∀ {l : List (LAnn × C2)}, find id (loopTab l) = some b → ∃ p, p ∈ l ∧ p.1.id = id ∧ p.2 = b
  | [], h => by cases h
  | q :: l, h => by
    simp only [loopTab, find] at h
    split at h
    · rename_i hk
      cases h
      exact ⟨q, List.mem_cons_self, hk.symm, rfl⟩
    · obtain ⟨p, hp, h1⟩ := tab_mem h
      exact ⟨p, List.mem_cons_of_mem _ hp, h1⟩

theorem loops_in : ∀ {c : C2} {p q : LAnn × C2}, p ∈ loopsOf c → q ∈ loopsOf p.2 → q ∈ loopsOf c
  | .seq a b, p, q, hp, hq => by
    rcases List.mem_append.1 hp with h | h
    · exact List.mem_append_left _ (loops_in h hq)
    · exact List.mem_append_right _ (loops_in h hq)
  | .cond _ a b, p, q, hp, hq => by
    rcases List.mem_append.1 hp with h | h
    · exact List.mem_append_left _ (loops_in h hq)
    · exact List.mem_append_right _ (loops_in h hq)
  | .block _ b, p, q, hp, hq => loops_in (c := b) hp hq
  | .loop an b, p, q, hp, hq => by
    rcases List.mem_cons.1 hp with rfl | h
    · exact List.mem_cons_of_mem _ hq
    · exact List.mem_cons_of_mem _ (loops_in h hq)
  | .skip, p, q, hp, hq => by cases hp
  | .region _ _, p, q, hp, hq => by cases hp
  | .exit _, p, q, hp, hq => by cases hp
  | .ret, p, q, hp, hq => by cases hp
  | .stuck, p, q, hp, hq => by cases hp

/-- What a function's own loops are. -/
def FD.isLoop (fd : FD) (an : LAnn) (b : C2) : Prop := find an.id (loopTab (loopsOf fd.body)) = some b

/-- The body of the loop with an id. -/
def FD.loop (fd : FD) (id : Nat) : C2 := (find id (loopTab (loopsOf fd.body))).getD .stuck

section
variable {P : Program} {fd : FD} {calls : List (Nat × Con)} {loops : List (Nat × LCon)} {byRef : FuncId → CC}

/-- Everything that is known when a function is looked at. -/
structure Known (P : Program) (fd : FD) (calls : List (Nat × Con)) (loops : List (Nat × LCon)) : Prop where
  mix : P.follows .mixedOrders = true
  ids : distinct (loopIds (loopsOf fd.body)) = true
  calls : ∀ p, p ∈ calls → ConOK P p.1 p.2
  loops : ∀ p, p ∈ loops → LConOK P (fd.loop p.1) p.2

theorem Known.ok (k : Known P fd calls loops) : (table calls loops).OK P fd.isLoop where
  nat := table_nat calls loops
  calls := ⟨fun {f args m v m'} h => runCons_ok calls k.calls h⟩
  loop := fun {an b st st' o} hB h => by
    simp only [table] at h
    split at h
    · rename_i c hc
      have hl := k.loops (an.id, c) (find_mem hc)
      unfold FD.isLoop at hB
      simp only [FD.loop, hB, Option.getD_some] at hl
      exact LCon.run_ok hl h
    · cases h

theorem Known.self (k : Known P fd calls loops) : ∀ p, p ∈ loopsOf fd.body → fd.isLoop p.1 p.2 := tab_self k.ids

/-- A function's contract. -/
theorem con_ok (k : Known P fd calls loops) {an : Nat → LAnn} {f : FuncId} {fn : Func} (hf : FnOK P an f fn fd) (rc : RC) (c : Con)
    (heq : ∀ a b, callBody (table calls loops) byRef rc fd (c.args.svs a) (c.mem.mem b) (fun v m => some (v, m)) = (c.F a b).map (outsGet c.outs)) : ConOK P f c := by
  intro a b r hr
  have h := heq a b
  rw [hr] at h
  exact callBody_sound k.ok k.mix hf k.self h

/-- A loop's contract. -/
theorem lcon_ok (k : Known P fd calls loops) {lan : LAnn} {id : Nat} (hid : (find id (loopTab (loopsOf fd.body))).isSome = true) (tmps : SkL) (mem : MSk) (outs : List OutL) (step : tmps.T × mem.T → Option ((tmps.T × mem.T) ⊕ OutLsT outs))
    (heq : ∀ p : tmps.T × mem.T, round (table calls loops) byRef lan (fd.loop id) (fun s => some (Sum.inl s)) ⟨tmps.svs p.1, mem.mem p.2⟩ (fun o s => some (Sum.inr (o, s))) =
      (step p).map (Sum.map (fun q => (⟨tmps.svs q.1, mem.mem q.2⟩ : St)) (outLsGet outs))) :
    LConOK P (fd.loop id) ⟨tmps, mem, outs, fun x y => runL step (x, y)⟩ := by
  intro x y r hr
  obtain ⟨n, hn⟩ := runL_some hr
  obtain ⟨b, hb⟩ := Option.isSome_iff_exists.1 hid
  have hbl : fd.loop id = b := by simp [FD.loop, hb]
  obtain ⟨p, hp, _, hpb⟩ := tab_mem hb
  have hin : ∀ q, q ∈ loopsOf (fd.loop id) → fd.isLoop q.1 q.2 := by
    intro q hq
    rw [hbl, ← hpb] at hq
    exact k.self q (loops_in hp hq)
  refine rounds_sound k.ok k.mix (lan := lan) (byRef := byRef) hin n ?_
  have key : ∀ (n : Nat) (p : tmps.T × mem.T), runN step n p = some r → rounds (table calls loops) byRef lan (fd.loop id) n ⟨tmps.svs p.1, mem.mem p.2⟩ (fun o s => some (o, s)) = some (outLsGet outs r) := by
    intro n
    induction n with
    | zero => intro p h; cases h
    | succ n ih =>
      intro p h
      simp only [runN] at h
      obtain ⟨z, hz, h⟩ := Option.bind_eq_some_iff.1 h
      have he := heq p
      rw [hz] at he
      have hnat : rounds (table calls loops) byRef lan (fd.loop id) (n + 1) ⟨tmps.svs p.1, mem.mem p.2⟩ (fun o s => some (o, s)) =
          (round (table calls loops) byRef lan (fd.loop id) (fun s => some (Sum.inl s)) ⟨tmps.svs p.1, mem.mem p.2⟩ (fun o s => some (Sum.inr (o, s)))).bind fun z =>
            match z with
            | .inl s => rounds (table calls loops) byRef lan (fd.loop id) n s (fun o s => some (o, s))
            | .inr q => some q := by
        simp only [rounds, round]
        rw [exec_nat k.ok.nat]
        conv => rhs; rw [exec_nat k.ok.nat]
        rw [Option.bind_assoc]
        congr 1
        funext q
        obtain ⟨o, s⟩ := q
        cases o with
        | norm =>
          dsimp only
          cases headOf lan s <;> rfl
        | exit id => rfl
        | ret => rfl
      rw [hnat, he]
      cases z with
      | inl q => exact ih q h
      | inr q => cases h; rfl
  exact key n (x, y) hn
end

/-! ### how a contract is told -/

def fdOf (P : Program) (an : Nat → LAnn) (fn : Func) : FD := (compFunc P an fn).getD ⟨0, 0, [], [], .stuck⟩

theorem fnOK {P : Program} {an : Nat → LAnn} {f : FuncId} {fn : Func} (h1 : P.funcs[f]? = some fn) (h2 : (compFunc P an fn).isSome = true) (h3 : (fn.name == "runtime.NumGoroutine") = false) : FnOK P an f fn (fdOf P an fn) := by
  refine ⟨h1, ?_, h3⟩
  obtain ⟨x, hx⟩ := Option.isSome_iff_exists.1 h2
  simp [fdOf, hx]

theorem bind_cond {α β : Type} (b : Bool) (x y : Option α) (f : α → Option β) : (cond b x y).bind f = cond b (x.bind f) (y.bind f) := by cases b <;> rfl
theorem bind_none' {α β : Type} (f : α → Option β) : (none : Option α).bind f = none := rfl
theorem bind_some' {α β : Type} (x : α) (f : α → Option β) : (some x).bind f = f x := rfl
theorem bind_bind' {α β γ : Type} (x : Option α) (f : α → Option β) (g : β → Option γ) : (x.bind f).bind g = x.bind fun a => (f a).bind g := by cases x <;> rfl
theorem bind_sum {α β γ δ : Type} (x : α ⊕ β) (f : α → Option γ) (g : β → Option γ) (h : γ → Option δ) : (Sum.elim f g x).bind h = Sum.elim (fun a => (f a).bind h) (fun b => (g b).bind h) x := by cases x <;> rfl

section
variable {P : Program} {fd : FD} {calls : List (Nat × Con)} {loops : List (Nat × LCon)} {byRef : FuncId → CC}

theorem con_of (k : Known P fd calls loops) {an : Nat → LAnn} {f : FuncId} {fn : Func} (hf : FnOK P an f fn fd) (rc : RC) (args : SkL) (mem : MSk) (outs : List OutC) (tree : {α : Type} → args.T → mem.T → (OutsT outs → Option α) → Option α)
    (h1 : ∀ (a : args.T) (b : mem.T), callBody (table calls loops) byRef rc fd (args.svs a) (mem.mem b) (fun v m => some (v, m)) = tree a b fun r => outsRun outs r fun v m => some (v, m))
    (h2 : ∀ {α : Type} (a : args.T) (b : mem.T) (K : OutsT outs → Option α), tree a b K = (tree a b some).bind K) : ConOK P f ⟨args, mem, outs, fun a b => tree a b some⟩ := by
  refine con_ok (byRef := byRef) k hf rc _ fun a b => ?_
  show _ = (tree a b some).map (outsGet outs)
  rw [h1, h2]
  cases tree a b some with
  | none => rfl
  | some r => simp only [Option.bind_some, Option.map_some, outsRun_eq]

theorem lcon_of (k : Known P fd calls loops) {lan : LAnn} {id : Nat} (hid : (find id (loopTab (loopsOf fd.body))).isSome = true) (tmps : SkL) (mem : MSk) (outs : List OutL)
    (tree : {α : Type} → tmps.T → mem.T → (tmps.T → mem.T → Option α) → (OutLsT outs → Option α) → Option α)
    (h1 : ∀ (a : tmps.T) (b : mem.T), round (α := St ⊕ (Out × St)) (table calls loops) byRef lan (fd.loop id) (fun s => some (Sum.inl s)) ⟨tmps.svs a, mem.mem b⟩ (fun o s => some (Sum.inr (o, s))) =
      tree a b (fun a' b' => some (.inl ⟨tmps.svs a', mem.mem b'⟩)) fun r => outLsRun outs r fun o s => some (Sum.inr (o, s)))
    (h2 : ∀ {α : Type} (a : tmps.T) (b : mem.T) (kn : tmps.T → mem.T → Option α) (kr : OutLsT outs → Option α), tree a b kn kr = (tree a b (fun a' b' => some (.inl (a', b'))) fun r => some (.inr r)).bind (Sum.elim (fun p : tmps.T × mem.T => kn p.1 p.2) kr)) :
    LConOK P (fd.loop id) ⟨tmps, mem, outs, fun x y => runL (fun p => tree p.1 p.2 (fun a' b' => some (.inl (a', b'))) fun r => some (.inr r)) (x, y)⟩ := by
  refine lcon_ok (byRef := byRef) k (lan := lan) hid tmps mem outs _ fun p => ?_
  rw [h1, h2]
  cases tree p.1 p.2 (fun a' b' => some (Sum.inl (a', b'))) (fun r => some (Sum.inr r)) with
  | none => rfl
  | some z =>
    cases z with
    | inl q => rfl
    | inr r => simp only [Option.bind_some, Sum.elim_inr, Option.map_some, outLsRun_eq, Sum.map_inr]
end

/-- A loop's own law, by its tree. -/
theorem runL_tree {A B R : Type} (t : {α : Type} → A → B → (A → B → Option α) → (R → Option α) → Option α)
    (h2 : ∀ {α : Type} (a : A) (b : B) (kn : A → B → Option α) (kr : R → Option α), t a b kn kr = (t a b (fun a' b' => some (Sum.inl (a', b'))) fun r => some (Sum.inr r)).bind (Sum.elim (fun p : A × B => kn p.1 p.2) kr)) (x : A) (y : B) :
    runL (fun p : A × B => t p.1 p.2 (fun a' b' => some (Sum.inl (a', b'))) fun r => some (Sum.inr r)) (x, y) =
      t x y (fun a b => runL (fun p : A × B => t p.1 p.2 (fun a' b' => some (Sum.inl (a', b'))) fun r => some (Sum.inr r)) (a, b)) some := by
  rw [runL_eq]
  conv => rhs; rw [h2]
  show Option.bind (t x y _ _) _ = _
  congr 1
  funext z
  cases z <;> rfl

/-- Whatever comes out has a property. -/
def Leaf {β : Type} (Q : β → Prop) (o : Option β) : Prop := ∀ r, o = some r → Q r
theorem leaf_none {β : Type} {Q : β → Prop} : Leaf Q none := fun r h => by cases h
theorem leaf_some {β : Type} {Q : β → Prop} {r : β} (h : Q r) : Leaf Q (some r) := fun r' h' => by cases h'; exact h
theorem leaf_cond {β : Type} {Q : β → Prop} {b : Bool} {x y : Option β} (hx : Leaf Q x) (hy : Leaf Q y) : Leaf Q (cond b x y) := by cases b; exact hy; exact hx
theorem leaf_bind {β γ : Type} {Q : β → Prop} {o : Option γ} {f : γ → Option β} (h : ∀ a, Leaf Q (f a)) : Leaf Q (o.bind f) := fun r hr => by
  obtain ⟨a, _, ha⟩ := Option.bind_eq_some_iff.1 hr
  exact h a r ha
theorem leaf_bindL {β γ : Type} {Q : β → Prop} {Q' : γ → Prop} {o : Option γ} {f : γ → Option β} (ho : Leaf Q' o) (h : ∀ a, Q' a → Leaf Q (f a)) : Leaf Q (o.bind f) := fun r hr => by
  obtain ⟨a, h1, ha⟩ := Option.bind_eq_some_iff.1 hr
  exact h a (ho a h1) r ha
theorem leaf_sum {β γ δ : Type} {Q : β → Prop} {x : γ ⊕ δ} {f : γ → Option β} {g : δ → Option β} (hf : ∀ a, Leaf Q (f a)) (hg : ∀ a, Leaf Q (g a)) : Leaf Q (Sum.elim f g x) := by
  cases x with
  | inl a => exact hf a
  | inr a => exact hg a
theorem leaf_loop {S R : Type} {step : S → Option (S ⊕ R)} (Inv : S → Prop) {Q : R → Prop} (h : ∀ s, Inv s → Leaf (Sum.elim Inv Q) (step s)) {s : S} (hs : Inv s) : Leaf Q (runL step s) := by
  intro r hr
  obtain ⟨n, hn⟩ := runL_some hr
  clear hr
  induction n generalizing s with
  | zero => cases hn
  | succ n ih =>
    simp only [runN] at hn
    obtain ⟨z, hz, hn⟩ := Option.bind_eq_some_iff.1 hn
    have := h s hs z hz
    cases z with
    | inl s' => exact ih this hn
    | inr r' => cases hn; exact this

/-! ### shapes of arguments, by their types -/

def skPrims : List Prim → SkL
  | [] => .nil
  | p :: l => .cons (.leaf p) (skPrims l)

/-- An argument's shape: its cells' kinds, where they are plain. -/
def skOfT (P : Program) (t : TypeId) : Option Sk :=
  match primsOf P 8 t, isAggT P t with
  | some ps, some true => some (.agg (skPrims ps))
  | some [p], some false => some (.leaf p)
  | _, _ => none

def skArgs (P : Program) : List TypeId → Option SkL
  | [] => some .nil
  | t :: l => match skOfT P t, skArgs P l with
    | some s, some r => some (.cons s r)
    | _, _ => none
end Go.Proofs.Ytgfanlafbjbkaaa.S2
