/-
  S2, sixth part: the operations on values alone.
-/
import Derived.Test.YtgfanlafbjbkaaaS2e
import Derived.Laws.StructEq
set_option linter.unusedVariables false
set_option linter.unusedSimpArgs false
namespace Go.Proofs.Ytgfanlafbjbkaaa.S2
open Go

section
variable {P : Program} {w : World} {A : Nat → Prop} {β : Loc}

theorem eqGuard_plain (op : BinOp) (t : TypeId) (x y : Operand) (a b : Value) (h : ∀ c d, a = .agg c → b = .agg d → False) (h' : a = .nilIface → b = .nilIface → False) : (eqGuard op t x y a b).run P w = .ok () w := by
  unfold eqGuard
  cases op <;> simp only [Bool.not_true, Bool.not_false, Bool.false_eq_true, if_false, if_true, Sem.run_pure] <;> try rfl
  all_goals
    split
    · exact (h' rfl rfl).elim
    · exact (h _ _ rfl rfl).elim
    · rfl

theorem tkOf_bool {t : TypeId} (h : tkOf P t = .bool) : P.underlying t = some .bool := by
  unfold tkOf at h; split at h <;> first | assumption | cases h
theorem tkOf_int {t : TypeId} (h : tkOf P t = .int) : ∃ k, P.underlying t = some (.int k) := by
  unfold tkOf at h; split at h <;> first | exact ⟨_, by assumption⟩ | cases h
theorem tkOf_str {t : TypeId} (h : tkOf P t = .str) : P.underlying t = some .string := by
  unfold tkOf at h; split at h <;> first | assumption | cases h
theorem tkOf_ptr {t : TypeId} (h : tkOf P t = .ptr) : ∃ e, P.underlying t = some (.pointer e) := by
  unfold tkOf at h; split at h <;> first | exact ⟨_, by assumption⟩ | cases h

theorem intOp_sound {op : BinOp} {k : IntKind} {a b : Int} {v : SV} (hs : isShift op = false) (h : intOp op k a b some = some v) (t : TypeId) :
    ∃ u, (binOp op t (.int k a) (.int k b)).run P w = .ok u w ∧ v.R w A β u := by
  cases op <;> simp only [intOp, isShift] at h hs <;> try (cases hs) <;> try (cases h)
  all_goals try (obtain ⟨h0, h⟩ := chk_some h; cases h; simp at h0; exact ⟨_, by simp [binOp, Op.intDiv, h0], rfl⟩)
  all_goals exact ⟨_, by simp only [binOp, ne_eq, not_true_eq_false, if_false]; rfl, rfl⟩

theorem shOp_sound {op : BinOp} {k k' : IntKind} {a b : Int} {v : SV} (h : shOp op k a b some = some v) (t : TypeId) :
    ∃ u, (binOp op t (.int k a) (.int k' b)).run P w = .ok u w ∧ v.R w A β u := by
  cases op <;> simp only [shOp] at h <;> try (cases h)
  all_goals
    obtain ⟨h0, h⟩ := chk_some h
    cases h
    simp at h0
    exact ⟨_, by simp [binOp, Op.shift, show ¬ b < 0 by omega], rfl⟩

theorem strOp_sound {op : BinOp} {a b : ByteArray} {v : SV} (h : strOp op a b some = some v) (t : TypeId) :
    ∃ u, (binOp op t (.string a) (.string b)).run P w = .ok u w ∧ v.R w A β u := by
  cases op <;> simp only [strOp] at h <;> try (cases h)
  · obtain ⟨h0, h⟩ := chk_some h
    cases h
    simp at h0
    have hmax : IntKind.i64.max = 9223372036854775807 := by decide
    exact ⟨_, by simp [binOp, Op.stringOp, hmax, show ¬ (9223372036854775807 < (a.size : Int) + (b.size : Int)) by omega], rfl⟩
  · exact ⟨_, by simp [binOp, Op.stringOp], rfl⟩
  · exact ⟨_, by simp [binOp, Op.stringOp], rfl⟩

theorem boolOp_sound {op : BinOp} {a b : Bool} {v : SV} (h : boolOp op a b some = some v) {t : TypeId} (ht : P.underlying t = some .bool) :
    ∃ u, (binOp op t (.bool a) (.bool b)).run P w = .ok u w ∧ v.R w A β u := by
  cases op <;> simp only [boolOp] at h <;> try (cases h)
  · exact ⟨.bool (a == b), by simp only [binOp, Op.equal, Op.maxDepth, Sem.run_bind, run_equalIn_bool' w 9999 t a b ht, Result.andThen_ok, Sem.run_pure], rfl⟩
  · exact ⟨.bool (!(a == b)), by simp only [binOp, Op.equal, Op.maxDepth, Sem.run_bind, run_equalIn_bool' w 9999 t a b ht, Result.andThen_ok, Sem.run_pure], rfl⟩

theorem nilTest_sound {op : BinOp} {b : Bool} {x y : Option Addr} {v : SV} (h : nilTest op b some = some v) {t e : TypeId} (ht : P.underlying t = some (.pointer e)) (hb : (x = none ∧ y = none ∧ b = true) ∨ (x ≠ none ∧ y = none ∧ b = false) ∨ (x = none ∧ y ≠ none ∧ b = false)) :
    ∃ u, (binOp op t (.pointer x) (.pointer y)).run P w = .ok u w ∧ v.R w A β u := by
  have he : ∀ d, (Op.equalIn (d + 1) t (.pointer x) (.pointer y)).run P w = .ok b w := by
    intro d
    rcases hb with ⟨rfl, rfl, rfl⟩ | ⟨hx, rfl, rfl⟩ | ⟨rfl, hy, rfl⟩
    · simp [Op.equalIn, run_underlying ht]
    · cases x with
      | none => exact (hx rfl).elim
      | some x => simp [Op.equalIn, run_underlying ht]
    · cases y with
      | none => exact (hy rfl).elim
      | some y => simp [Op.equalIn, run_underlying ht]
  cases op <;> simp only [nilTest] at h <;> try (cases h)
  · refine ⟨.bool b, ?_, rfl⟩
    cases x <;> cases y <;> simp only [binOp, Op.equal, Op.maxDepth, Sem.run_bind, he 9999, Result.andThen_ok, Sem.run_pure]
  · refine ⟨.bool (!b), ?_, rfl⟩
    cases x <;> cases y <;> simp only [binOp, Op.equal, Op.maxDepth, Sem.run_bind, he 9999, Result.andThen_ok, Sem.run_pure]

theorem tkOf_slc {t : TypeId} (h : tkOf P t = .slc) : ∃ e, P.underlying t = some (.slice e) := by
  unfold tkOf at h; split at h <;> first | exact ⟨_, by assumption⟩ | cases h

theorem nilTestS_sound {op : BinOp} {b : Bool} {x : Option Addr} {n c : Nat} {v : SV} (h : nilTest op b some = some v) {t e : TypeId} (ht : P.underlying t = some (.slice e)) (hb : b = x.isNone) :
    ∃ u, (binOp op t (.slice x n c) (.slice none 0 0)).run P w = .ok u w ∧ v.R w A β u := by
  have he : ∀ d, (Op.equalIn (d + 1) t (.slice x n c) (.slice none 0 0)).run P w = .ok b w := by
    intro d
    subst hb
    cases x <;> simp [Op.equalIn, run_underlying ht]
  cases op <;> simp only [nilTest] at h <;> try (cases h)
  · refine ⟨.bool b, ?_, rfl⟩
    simp only [binOp, Op.equal, Op.maxDepth, Sem.run_bind, he 9999, Result.andThen_ok, Sem.run_pure]
  · refine ⟨.bool (!b), ?_, rfl⟩
    simp only [binOp, Op.equal, Op.maxDepth, Sem.run_bind, he 9999, Result.andThen_ok, Sem.run_pure]

theorem addr_some {l : LK} {i fo : Nat} {v : Value} (h : l.addr i fo v) : ∃ ad, v = .pointer (some ad) := by
  cases l with
  | box b => exact ⟨_, h⟩
  | row ad => cases ad with
    | none => exact h.elim
    | some g => exact ⟨_, h.2⟩
  | froz ad => cases ad with
    | none => exact h.elim
    | some g => exact ⟨_, h.2⟩
  | gone => exact h

theorem binx_sound {op : BinOp} {t : TypeId} {x y : SV} {vx vy : Value} {xo yo : Operand} {v : SV} (h : binx (tkOf P t) op x y some = some v) (hx : x.R w A β vx) (hy : y.R w A β vy) :
    ∃ u, (do eqGuard op t xo yo vx vy; binOp op t vx vy : Sem Value).run P w = .ok u w ∧ v.R w A β u := by
  have hgo : (∀ c d, vx = .agg c → vy = .agg d → False) → (vx = .nilIface → vy = .nilIface → False) → (∃ u, (binOp op t vx vy).run P w = .ok u w ∧ v.R w A β u) →
      ∃ u, (do eqGuard op t xo yo vx vy; binOp op t vx vy : Sem Value).run P w = .ok u w ∧ v.R w A β u := by
    rintro h1 h2 ⟨u, hu, hr⟩
    exact ⟨u, by rw [Sem.run_bind, eqGuard_plain op t xo yo vx vy h1 h2]; exact hu, hr⟩
  unfold binx at h
  split at h
  · rename_i k a k' b
    simp only [SV.R] at hx hy
    subst hx hy
    refine hgo (by intro c d e; cases e) (by intro e; cases e) ?_
    split at h
    · exact shOp_sound h t
    · rename_i hs
      split at h
      · rename_i hk
        subst hk
        exact intOp_sound hs h t
      · cases h
  · simp only [SV.R] at hx hy
    subst hx hy
    exact hgo (by intro c d e; cases e) (by intro e; cases e) (strOp_sound h t)
  · simp only [SV.R] at hx hy
    subst hx hy
    split at h
    · rename_i ht
      exact hgo (by intro c d e; cases e) (by intro e; cases e) (boolOp_sound h (tkOf_bool ht))
    · cases h
  · simp only [SV.R] at hx hy
    subst hx hy
    split at h
    · rename_i ht
      obtain ⟨e, ht⟩ := tkOf_ptr ht
      exact hgo (by intro c d e; cases e) (by intro e; cases e) (nilTest_sound h ht (.inl ⟨rfl, rfl, rfl⟩))
    · cases h
  · simp only [SV.R] at hx hy
    obtain ⟨l, _, ha⟩ := hx
    obtain ⟨ad, rfl⟩ := addr_some ha
    subst hy
    split at h
    · rename_i ht
      obtain ⟨e, ht⟩ := tkOf_ptr ht
      exact hgo (by intro c d e; cases e) (by intro e; cases e) (nilTest_sound h ht (.inr (.inl ⟨by simp, rfl, rfl⟩)))
    · cases h
  · simp only [SV.R] at hx hy
    obtain ⟨l, _, ha⟩ := hy
    obtain ⟨ad, rfl⟩ := addr_some ha
    subst hx
    split at h
    · rename_i ht
      obtain ⟨e, ht⟩ := tkOf_ptr ht
      exact hgo (by intro c d e; cases e) (by intro e; cases e) (nilTest_sound h ht (.inr (.inr ⟨rfl, by simp, rfl⟩)))
    · cases h
  · simp only [SV.R] at hx hy
    subst hx hy
    split at h
    · rename_i ht
      obtain ⟨e, ht⟩ := tkOf_slc ht
      exact hgo (by intro c d e; cases e) (by intro e; cases e) (nilTestS_sound h ht rfl)
    · cases h
  · simp only [SV.R] at hx hy
    obtain ⟨ad, cap, rfl⟩ := hx
    subst hy
    split at h
    · rename_i ht
      obtain ⟨e, ht⟩ := tkOf_slc ht
      exact hgo (by intro c d e; cases e) (by intro e; cases e) (nilTestS_sound h ht rfl)
    · cases h
  · simp only [SV.R, Prim.R] at hx hy
    obtain ⟨ad, cap, rfl, _, hget⟩ := hx
    subst hy
    split at h
    · rename_i ht
      obtain ⟨e, ht⟩ := tkOf_slc ht
      obtain ⟨hlen, h⟩ := chk_some h
      simp only [decide_eq_true_eq] at hlen
      obtain ⟨a, _, ha, _⟩ := hget 0 hlen
      subst ha
      exact hgo (by intro c d e; cases e) (by intro e; cases e) (nilTestS_sound h ht rfl)
    · cases h
  · cases h

/-! '==' of structs -/

theorem cellEq_sound {d : Nat} {t : TypeId} {x y : SV} {vx vy : Value} {b : Bool} (h : cellEq (tkOf P t) x y = some b) (hx : x.R w A β vx) (hy : y.R w A β vy) :
    (Op.equalIn (d + 1) t vx vy).run P w = .ok b w := by
  unfold cellEq at h
  split at h
  · rename_i k a k' b' ht
    simp only [SV.R] at hx hy
    subst hx hy
    split at h
    · rename_i hk
      subst hk
      cases h
      obtain ⟨k2, hk2⟩ := tkOf_int ht
      exact run_equalIn_int w d t k k2 _ _ hk2
    · cases h
  · rename_i ht
    simp only [SV.R] at hx hy
    subst hx hy
    cases h
    exact run_equalIn_bool' w d t _ _ (tkOf_bool ht)
  · rename_i ht
    simp only [SV.R] at hx hy
    subst hx hy
    cases h
    exact run_equalIn_string w d t _ _ (tkOf_str ht)
  · cases h

theorem isAggT_tk {t : TypeId} (h : tkOf P t ≠ .oth) : isAggT P t = some false := by
  unfold tkOf at h
  unfold isAggT
  split at h
  · rename_i k hk; rw [hk]
  · rename_i hk; rw [hk]
  · rename_i hk; rw [hk]
  · rename_i e hk; rw [hk]
  · rename_i e hk; rw [hk]
  · exact (h rfl).elim

theorem run_part_one {t : TypeId} (h : tkOf P t ≠ .oth) (cs : Array Value) (n : Nat) (u : Value) (hu : cs[n]? = some u) : (part t cs n).run P w = .ok u w := by
  simp [part, isAggT_run (isAggT_tk h), hu]

theorem eqFields_sound {d : Nat} (xs ys : Array Value) : ∀ (fs : List Field) (n : Nat) (ks : List TK) (l l' : List SV) (vs vs' : List Value) (b : Bool), plainFrom P n fs = some ks → cellsEq ks l l' = some b →
    SV.RL w A β l vs → SV.RL w A β l' vs' → (∀ i u, vs[i]? = some u → xs[n + i]? = some u) → (∀ i u, vs'[i]? = some u → ys[n + i]? = some u) →
    (Op.eqFields (d + 1) xs ys fs).run P w = .ok b w
  | [], n, ks, l, l', vs, vs', b, hp, hc, h1, h2, hx, hy => by
    simp [plainFrom] at hp
    subst hp
    cases l <;> cases l' <;> simp [cellsEq] at hc
    subst hc
    rfl
  | f :: fs, n, ks, l, l', vs, vs', b, hp, hc, h1, h2, hx, hy => by
    simp only [plainFrom] at hp
    split at hp
    · rename_i hf
      obtain ⟨ho, hn, ht, _⟩ := hf
      split at hp
      · rename_i ks' hks
        cases hp
        unfold cellsEq at hc
        split at hc
        · rename_i heq; cases heq
        · rename_i t ts x l1 y l2 heq
          cases heq
          split at hc
          · rename_i b1 b2 hb1 hb2
            cases hc
            simp only [SV.RL] at h1 h2
            obtain ⟨v, us, rfl, hxv, h1⟩ := h1
            obtain ⟨v', us', rfl, hyv, h2⟩ := h2
            have hx0 := hx 0 v rfl
            have hy0 := hy 0 v' rfl
            simp only [Nat.add_zero] at hx0 hy0
            have ih := eqFields_sound (d := d) xs ys fs (n + 1) ks' l1 l2 us us' b2 hks hb2 h1 h2 (fun i u hu => by have := hx (i + 1) u (by simpa using hu); rwa [show n + (i + 1) = n + 1 + i by omega] at this) (fun i u hu => by have := hy (i + 1) u (by simpa using hu); rwa [show n + (i + 1) = n + 1 + i by omega] at this)
            simp only [Op.eqFields, if_pos hn, Sem.run_bind, ho, run_part_one ht xs n v hx0, run_part_one ht ys n v' hy0, Result.andThen_ok, cellEq_sound hb1 hxv hyv]
            cases b1
            · simp
            · simpa using ih
          · cases hc
        · cases hc
      · cases hp
    · cases hp

theorem eqsx_sound {op : BinOp} {t : TypeId} {ks : List TK} (hk : plainEq P t = some ks) {neg : Bool} (hop : (op = .eql ∧ neg = false) ∨ (op = .neq ∧ neg = true)) {x y : SV} {vx vy : Value} {xo yo : Operand} {v : SV} (h : eqsx neg ks x y = some v)
    (hx : x.R w A β vx) (hy : y.R w A β vy) : ∃ u, (do eqGuard op t xo yo vx vy; binOp op t vx vy : Sem Value).run P w = .ok u w ∧ v.R w A β u := by
  unfold eqsx at h
  split at h
  · rename_i l l'
    split at h
    · rename_i b hb
      cases h
      simp only [SV.R] at hx hy
      obtain ⟨vs, rfl, h1, _⟩ := hx
      obtain ⟨vs', rfl, h2, _⟩ := hy
      unfold plainEq at hk
      split at hk
      · rename_i fs hfs
        split at hk
        · rename_i hs
          have hfo : P.fieldsOf t = fs := by simp [Program.fieldsOf, hfs]
          have ht : P.underlying t = some (.struct (P.fieldsOf t)) := by rw [hfo]; exact hfs
          have he : (Op.equalIn 10000 t (.agg vs.toArray) (.agg vs'.toArray)).run P w = .ok b w := by
            rw [run_equalIn_agg w 9999 t _ _ ht hs.1, hfo]
            exact eqFields_sound (d := 9998) vs.toArray vs'.toArray fs.toList 0 ks l l' vs vs' b hk hb h1 h2 (fun i u hu => by simpa using hu) (fun i u hu => by simpa using hu)
          rcases hop with ⟨rfl, rfl⟩ | ⟨rfl, rfl⟩
          · exact ⟨.bool b, by rw [Sem.run_bind, run_eqGuard_agg w _ t xo yo _ _ hs.2, Result.andThen_ok, run_eql_struct, he]; rfl, by simp [SV.R]⟩
          · exact ⟨.bool (!b), by rw [Sem.run_bind, run_eqGuard_agg w _ t xo yo _ _ hs.2, Result.andThen_ok, run_neq_struct, he]; rfl, by simp [SV.R]⟩
        · cases hk
      · cases hk
    · cases h
  · cases h

theorem unx_sound {op : UnOp} {x : SV} {vx : Value} {v : SV} (h : unx op x = some v) (hx : x.R w A β vx) : ∃ u, (Op.unary op vx).run P w = .ok u w ∧ v.R w A β u := by
  unfold unx at h
  split at h
  · cases h; simp only [SV.R] at hx; subst hx; exact ⟨_, rfl, rfl⟩
  · cases h; simp only [SV.R] at hx; subst hx; exact ⟨_, rfl, rfl⟩
  · cases h; simp only [SV.R] at hx; subst hx; exact ⟨_, rfl, rfl⟩
  · cases h
end
end Go.Proofs.Ytgfanlafbjbkaaa.S2
