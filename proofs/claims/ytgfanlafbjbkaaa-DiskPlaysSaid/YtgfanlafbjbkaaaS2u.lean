/-
  S2, twenty-first part: regions are sound, in the order of the text and in any order.
-/
import Derived.Test.YtgfanlafbjbkaaaS2t
set_option linter.unusedVariables false
set_option linter.unusedSimpArgs false
namespace Go.Proofs.Ytgfanlafbjbkaaa.S2
open Go

/-- The frame is what the plain one says. -/
structure FR (w : World) (A : Nat → Prop) (β : Loc) (ts : List SV) (a : Act) : Prop where
  len : a.tmps.size = ts.length
  val : TR w A β ts a
  defers : a.defers = []

theorem MR.congr {w : World} {Z : Nat → Prop} {β : Loc} {m m' : Mem} (h : MR w Z β m) (he : ∀ q, m'.get q = m.get q) : MR w Z β m' :=
  ⟨fun k o ho => h.obs k o (he k ▸ ho), fun k l hl => by rw [he]; exact h.dom k l hl, h.inj, h.apart, h.old⟩

theorem MR.drew {w : World} {Z : Nat → Prop} {β : Loc} {m : Mem} (h : MR w Z β m) {n : Nat} : MR { w with drawn := n } Z β m := by
  have hs : Step w { w with drawn := n } β β := ⟨rfl, rfl, rfl, Nat.le_refl _, fun _ _ _ => rfl, fun _ h => .inl h, Loc.le_refl β⟩
  exact ⟨fun k o ho => let ⟨l, hl, hob⟩ := h.obs k o ho; ⟨l, hl, hob.kept hs.stays hs.le fun _ _ => rfl⟩, h.dom, h.inj, h.apart, h.old⟩

theorem Act.getD_put (a : Act) (dst : Option Tmp) (v : Value) (t : Nat) : (a.put dst v).tmps.getD t undef = if dst = some t then (if t < a.tmps.size then v else undef) else a.tmps.getD t undef := by
  cases dst with
  | none => simp [Act.put]
  | some d =>
    by_cases h : d = t
    · subst h
      simp only [Act.put, if_true]
      simp only [Array.getD_eq_getD_getElem?, Array.getElem?_setIfInBounds, if_true]
      split <;> rfl
    · simp [Act.put, h, Array.getElem?_setIfInBounds_ne h]

section
variable {P : Program} {cb : CB} {byRef : FuncId → CC} {ops : Array Oper} {ops2 : List Op2} {st : St} {es : List (Option Eff)} {Z : Nat → Prop}

theorem compOper_get {l : List Oper} {l2 : List Op2} (h : allSome (compOper P) l = some l2) {i : Nat} {o : Oper} (ho : l[i]? = some o) :
    ∃ o2, l2[i]? = some o2 ∧ o2.dst = o.dst ∧ o2.guard = o.guard ∧ (compOp P o = some o2.op ∨ o2.op = .no) ∧ o2.ahead = (o.after.toList.filter (Region.binds .any)).map (·.on) := by
  obtain ⟨o2, h2, hc⟩ := allSome_get h i o ho
  unfold compOper at hc
  split at hc
  · rename_i op hop
    cases hc
    exact ⟨_, h2, rfl, rfl, .inl hop, rfl⟩
  · cases hc
    exact ⟨_, h2, rfl, rfl, .inr rfl, rfl⟩

theorem guardSlot_eq (h : allSome (compOper P) ops.toList = some ops2) (j : Nat) : guardSlot ops2 j = (ops[j]?).bind (·.dst) := by
  unfold guardSlot
  cases hj : ops[j]? with
  | none =>
    cases h2 : ops2[j]? with
    | none => rfl
    | some o2 =>
      obtain ⟨x, hx, _⟩ := allSome_get' h j o2 h2
      rw [Array.getElem?_toList] at hx
      rw [hj] at hx
      cases hx
  | some o =>
    obtain ⟨o2, h2, hd, _⟩ := compOper_get h (i := j) (o := o) (by rw [Array.getElem?_toList]; exact hj)
    simp [h2, hd]

theorem wanted_of (h : allSome (compOper P) ops.toList = some ops2) {o : Oper} {o2 : Op2} (hg : o2.guard = o.guard) {s : St} {b : Bool} (hw : wantedAt ops2 o2 s b) {w : World} {A : Nat → Prop} {β : Loc} {a : Act} (hT : TR w A β s.tmps a) :
    Region.wanted o (yielded ops a.tmps) = b := by
  unfold wantedAt at hw
  unfold Region.wanted
  rw [hg] at hw
  cases hgo : o.guard with
  | none => rw [hgo] at hw; exact hw.symm
  | some p =>
    obtain ⟨j, want⟩ := p
    rw [hgo] at hw
    obtain ⟨t, h1, hw⟩ := hw
    rw [guardSlot_eq h] at h1
    have h3 := hT t
    rcases hw with ⟨c, h2, rfl⟩ | ⟨h2, rfl⟩
    rotate_left
    · rw [h2] at h3
      simp only [SV.R, SV.RL] at h3
      obtain ⟨vs, h3, rfl⟩ := h3
      have h4 : a.tmps[t]? = none ∨ a.tmps[t]? = some (.tuple #[]) := by
        rw [Array.getD_eq_getD_getElem?] at h3
        cases h5 : a.tmps[t]? with
        | none => exact .inl rfl
        | some v => rw [h5] at h3; simp at h3; rw [h3]; exact .inr rfl
      rcases h4 with h4 | h4 <;> simp only [yielded, h1, Option.bind_some, h4] <;> cases want <;> rfl
    rw [h2] at h3
    simp only [SV.R] at h3
    have h4 : a.tmps[t]? = some (.bool c) := by
      rw [Array.getD_eq_getD_getElem?] at h3
      cases h5 : a.tmps[t]? with
      | none => rw [h5] at h3; simp [undef] at h3
      | some v => rw [h5] at h3; simp at h3; rw [h3]
    simp only [yielded, h1, Option.bind_some, h4]
    cases c <;> cases want <;> rfl

structure Reg (P : Program) (cb : CB) (byRef : FuncId → CC) (ops : Array Oper) (ops2 : List Op2) (st : St) (es : List (Option Eff)) : Prop where
  comp : allSome (compOper P) ops.toList = some ops2
  len : es.length = ops2.length
  came : ∀ (k : Nat) o e, ops2[k]? = some o → es[k]? = some e → Came cb byRef ops2 o (foldAll (fun j => decide (j < k)) 0 ops2 es st) e

theorem disjoint_spec {a b : List Nat} (h : disjoint a b = true) {k : Nat} (h1 : k ∈ a) (h2 : k ∈ b) : False := by
  have := List.all_eq_true.1 h k h1
  simp [h2] at this

/-- One operation, where others have run or have not. -/
theorem reg_step (hn : cb.Nat) (hcb : cb.CallsOK P) (R : Reg P cb byRef ops ops2 st es) {sel : Nat → Bool} {i : Nat} {oi : Op2} {ei : Option Eff} (hoi : ops2[i]? = some oi) (hei : es[i]? = some ei) (hsel : sel i = false)
    (hfree : ∀ (j : Nat) oj ej, ops2[j]? = some oj → es[j]? = some ej → j ≠ i → sel j = decide (j < i) ∨ (j < i ∧ free2 ops2 oj oi ej ei = true) ∨ (i < j ∧ free2 ops2 oi oj ei ej = true))
    {w : World} {β : Loc} {a : Act} (hF : FR w (β.away Z) β (foldAll sel 0 ops2 es st).tmps a) (hm : MR w Z β (foldAll sel 0 ops2 es st).mem)
    {K : Act → World → Prop} {Q : Exit → Act → World → Prop}
    (hK : ∀ a' w' β', Step w w' β β' → FR w' (β'.away Z) β' (foldAll (fun j => sel j || j == i) 0 ops2 es st).tmps a' → MR w' Z β' (foldAll (fun j => sel j || j == i) 0 ops2 es st).mem → K a' w') : wpOp P ops Q i K a w := by
  have hlt : i < ops2.length := (List.getElem?_eq_some_iff.1 hoi).1
  have hes : ∀ j : Nat, j < ops2.length → ∃ ej, es[j]? = some ej := fun j hj => ⟨_, List.getElem?_eq_getElem (by rw [R.len]; exact hj)⟩
  -- the slots that it looks at
  have hslot : ∀ t, t ∈ oi.looks ops2 → (foldAll sel 0 ops2 es st).tmps.getD t .dead = (foldAll (fun j => decide (j < i)) 0 ops2 es st).tmps.getD t .dead := by
    intro t ht
    refine slot_congr ops2 es 0 st st rfl rfl fun k o ho hd => ?_
    rw [Nat.zero_add]
    by_cases hk : k = i
    · subst hk; simp [hsel]
    · obtain ⟨ek, hek⟩ := hes k (List.getElem?_eq_some_iff.1 ho).1
      rcases hfree k o ek ho hek hk with h | ⟨h1, h⟩ | ⟨h1, h⟩
      · exact h
      · simp [free2, hd, ht] at h
      · simp [free2, hd, ht] at h
  have hmem : ∀ ef, ei = some ef → ∀ q, q ∈ ef.fp → (foldAll sel 0 ops2 es st).mem.get q = (foldAll (fun j => decide (j < i)) 0 ops2 es st).mem.get q := by
    intro ef hef q hq
    refine get_congr ops2 es 0 st st rfl fun k e hk he hu => ?_
    rw [Nat.zero_add]
    by_cases hki : k = i
    · subst hki; simp [hsel]
    · have ho : ops2[k]? = some ops2[k] := List.getElem?_eq_getElem hk
      cases e with
      | none => cases hu
      | some ek =>
        rcases hfree k _ _ ho he hki with h | ⟨h1, h⟩ | ⟨h1, h⟩
        · exact h
        · simp only [free2, hef, Bool.and_eq_true] at h
          exact (disjoint_spec h.2.1 hu (List.mem_append_left _ hq)).elim
        · simp only [free2, hef, Bool.and_eq_true] at h
          exact (disjoint_spec h.2.2 hu (List.mem_append_left _ hq)).elim
  have hlast : ∀ (k' : Nat) o' t, i < k' → ops2[k']? = some o' → o'.dst = some t → oi.dst = some t → sel k' = false := by
    intro k' o' t hk ho' hd hd'
    obtain ⟨ek, hek⟩ := hes k' (List.getElem?_eq_some_iff.1 ho').1
    rcases hfree k' o' ek ho' hek (by omega) with h | ⟨h1, h⟩ | ⟨h1, h⟩
    · rw [h]; simp; omega
    · omega
    · simp [free2, hd, hd'] at h
  have hlastm : ∀ (k' : Nat) e' q, i < k' → k' < ops2.length → es[k']? = some e' → q ∈ names (updOf e') → q ∈ names (updOf ei) → sel k' = false := by
    intro k' e' q hk hk' he' hq hq'
    rcases hfree k' _ e' (List.getElem?_eq_getElem hk') he' (by omega) with h | ⟨h1, h⟩ | ⟨h1, h⟩
    · rw [h]; simp; omega
    · omega
    · cases e' with
      | none => cases hq
      | some e' =>
        cases ei with
        | none => cases hq'
        | some ef =>
          simp only [free2, Bool.and_eq_true] at h
          exact (disjoint_spec h.2.2 hq (List.mem_append_right _ hq')).elim
  -- what comes of it
  have hnew : ∀ {w' : World} {β' : Loc} {v : Value}, Step w w' β β' → MR w' Z β' ((foldAll sel 0 ops2 es st).mem.sets (updOf ei)) → (valOf ei).R w' (β'.away Z) β' v → K (a.put oi.dst v) w' := by
    intro w' β' v hs hm' hv
    refine hK _ w' β' hs ⟨?_, fun t => ?_, ?_⟩ (hm'.congr fun q => ?_)
    · have : (a.put oi.dst v).tmps.size = a.tmps.size := by cases oi.dst <;> simp [Act.put]
      rw [this, hF.len, foldAll_len, foldAll_len]
    · rw [Act.getD_put]
      by_cases hd : oi.dst = some t
      · rw [if_pos hd, slot_last ops2 es 0 i st hoi hei hd (by simp) fun k' o' hk ho' hd' => by
          rw [Nat.zero_add]
          simp only [hlast k' o' t hk ho' hd' hd, Bool.false_or, beq_eq_false_iff_ne]
          omega]
        have hl := hF.len
        rw [foldAll_len] at hl
        rw [hl]
        split
        · exact hv
        · trivial
      · rw [if_neg hd, slot_congr (sel' := sel) ops2 es 0 st st rfl rfl fun k o ho hd' => by
          have : k ≠ i := by
            rintro rfl
            rw [hoi] at ho
            cases ho
            exact hd hd'
          simp [this]]
        exact SV.R_step hs.stays hs.le _ _ (hF.val t)
    · have : (a.put oi.dst v).defers = a.defers := by cases oi.dst <;> rfl
      rw [this, hF.defers]
    · by_cases hq : q ∈ names (updOf ei)
      · exact get_last ops2 es 0 i st _ hlt hei hq (by simp) fun k' e' hk hk' he' hq' => by
          rw [Nat.zero_add]
          simp only [hlastm k' e' q hk hk' he' hq' hq, Bool.false_or, beq_eq_false_iff_ne]
          omega
      · rw [sets_out _ _ hq]
        refine get_congr ops2 es 0 st st rfl fun k e hk he hu => ?_
        have : k ≠ i := by
          rintro rfl
          rw [hei] at he
          cases he
          exact hq hu
        simp [this]
  -- the model
  unfold wpOp
  cases hoo : ops[i]? with
  | none =>
    obtain ⟨x, hx, _⟩ := allSome_get' R.comp i oi hoi
    rw [Array.getElem?_toList, hoo] at hx
    cases hx
  | some o =>
    obtain ⟨o2, h2, hd, hg, hc, _⟩ := compOper_get R.comp (i := i) (o := o) (by rw [Array.getElem?_toList]; exact hoo)
    rw [hoi] at h2
    cases h2
    dsimp only
    have hcame := R.came i oi ei hoi hei
    have hwant : ∀ b, wantedAt ops2 oi (foldAll (fun j => decide (j < i)) 0 ops2 es st) b → Region.wanted o (yielded ops a.tmps) = b := by
      intro b hb
      refine wanted_of R.comp hg (s := foldAll sel 0 ops2 es st) ?_ hF.val
      unfold wantedAt at hb ⊢
      cases hgo : oi.guard with
      | none => rw [hgo] at hb; exact hb
      | some p =>
        obtain ⟨j, want⟩ := p
        rw [hgo] at hb
        obtain ⟨t, h1, h2⟩ := hb
        refine ⟨t, h1, ?_⟩
        rw [hslot t ?_]
        · exact h2
        · simp [Op2.looks, hgo, h1]
    cases hei' : ei with
    | none =>
      rw [hei'] at hcame
      rw [hwant false hcame, if_neg (by simp), ← hd]
      exact hnew (Step.refl w β) (by rw [hei']; exact hm) (by rw [hei']; exact ⟨[], rfl, rfl⟩)
    | some ef =>
      rw [hei'] at hcame
      obtain ⟨h1, h3⟩ := hcame
      rw [hwant true h1, if_pos rfl]
      refine .inl ?_
      have h4 := opx_loc hn h3 (ts' := (foldAll sel 0 ops2 es st).tmps) (m' := (foldAll sel 0 ops2 es st).mem) (fun t ht => hslot t (by
        simp only [Op2.looks]; exact List.mem_append_left _ ht)) (fun k hk => hmem ef hei' k hk)
      rw [hd] at h4
      have hc : compOp P o = some oi.op := by
        rcases hc with hc | hc
        · exact hc
        · rw [hc] at h4; cases h4
      refine op_ok hn hcb hc hF.val hm h4 K Q fun v w' hpost => ?_
      obtain ⟨β', hs, hm', hv⟩ := hpost
      rw [← hd]
      exact hnew hs (by rw [hei']; exact hm') (by rw [hei']; exact hv)

/-! ### the order of the text -/

theorem text_sound (hn : cb.Nat) (hcb : cb.CallsOK P) (R : Reg P cb byRef ops ops2 st es) {w0 : World} {β0 : Loc} {Q : Exit → Act → World → Prop}
    (hQ : ∀ a' w' β', Step w0 w' β0 β' → FR w' (β'.away Z) β' (foldAll (fun _ => true) 0 ops2 es st).tmps a' → MR w' Z β' (foldAll (fun _ => true) 0 ops2 es st).mem → Q .normal a' w') :
    ∀ (n i : Nat) (β : Loc) (a : Act) (w : World), i + n = ops2.length → Step w0 w β0 β → FR w (β.away Z) β (foldAll (fun j => decide (j < i)) 0 ops2 es st).tmps a → MR w Z β (foldAll (fun j => decide (j < i)) 0 ops2 es st).mem →
      wpOps P ops Q (List.range' i n) a w := by
  intro n
  induction n with
  | zero =>
    intro i β a w hi hs hF hm
    have h1 : ∀ t, (foldAll (fun j => decide (j < i)) 0 ops2 es st).tmps.getD t .dead = (foldAll (fun _ => true) 0 ops2 es st).tmps.getD t .dead := fun t =>
      slot_congr ops2 es 0 st st rfl rfl fun k o ho _ => by
        have := (List.getElem?_eq_some_iff.1 ho).1
        simp; omega
    refine hQ a w β hs ⟨by rw [hF.len, foldAll_len, foldAll_len], fun t => h1 t ▸ hF.val t, hF.defers⟩ (hm.congr fun q => (get_congr ops2 es 0 st st rfl fun k e hk _ _ => by simp; omega).symm)
  | succ n ih =>
    intro i β a w hi hs hF hm
    rw [List.range'_succ, wpOps_cons]
    have hlt : i < ops2.length := by omega
    have hes : es[i]? = some (es[i]'(by rw [R.len]; exact hlt)) := List.getElem?_eq_getElem _
    refine reg_step hn hcb R (List.getElem?_eq_getElem hlt) hes (sel := fun j => decide (j < i)) (by simp) (fun j oj ej _ _ _ => .inl rfl) hF hm fun a' w' β' hs' hF' hm' => ?_
    have e : (fun j => decide (j < i) || j == i) = fun j => decide (j < i + 1) := by
      funext j
      rw [Bool.eq_iff_iff]
      simp
      omega
    rw [e] at hF' hm'
    exact ih (i + 1) β' a' w' (by omega) (hs.trans hs') hF' hm'

/-! ### any order -/

theorem count_set : ∀ (l : List Bool) (i : Nat), l[i]? = some false → (l.set i true).count false + 1 = l.count false
  | [], i, h => by simp at h
  | x :: l, 0, h => by simp at h; subst h; simp
  | x :: l, i + 1, h => by
    have := count_set l i (by simpa using h)
    simp only [List.set_cons_succ, List.count_cons]
    omega

theorem aheadOk_get : ∀ (l : List Op2) (k i : Nat) (o : Op2), aheadOk k l = true → l[i]? = some o → ∀ j, j ∈ o.ahead → j < k + i
  | [], k, i, o, _, h, _, _ => by simp at h
  | x :: l, k, 0, o, ha, h, j, hj => by
    simp at h
    subst h
    simp only [aheadOk, Bool.and_eq_true] at ha
    have := List.all_eq_true.1 ha.1.1 j hj
    simpa using this
  | x :: l, k, i + 1, o, ha, h, j, hj => by
    simp only [aheadOk, Bool.and_eq_true] at ha
    have := aheadOk_get l (k + 1) i o ha.2 (by simpa using h) j hj
    omega

/-- Which operations must have run ahead of one, through others. -/
inductive AheadR (l : List Op2) : Nat → Nat → Prop where
  | one {j i : Nat} {o : Op2} (h : l[j]? = some o) (hi : i ∈ o.ahead) : AheadR l j i
  | more {j j' i : Nat} {o : Op2} (h : l[j]? = some o) (hj : j' ∈ o.ahead) (k : AheadR l j' i) : AheadR l j i

theorem ahead_closed {l : List Op2} {S : Nat → Prop} (hS : ∀ (j : Nat) o, S j → l[j]? = some o → ∀ i, i ∈ o.ahead → S i) : ∀ {j i : Nat}, AheadR l j i → (∀ o, l[j]? = some o → ∀ i, i ∈ o.ahead → S i) → S i := by
  intro j i h
  induction h with
  | one h hi => intro hd; exact hd _ h _ hi
  | more h hj k ih => intro hd; exact ih fun o ho i hi => hS _ o (hd _ h _ hj) ho i hi

theorem forceN_eq {β : Type} (n : Nat) (k : Nat → β) : forceN n k = k n := by cases n <;> rfl

theorem bit_testBit (k i : Nat) : (Nat.shiftLeft 1 k).testBit i = decide (k = i) := by
  show ((1 <<< k : Nat)).testBit i = _
  rw [Nat.one_shiftLeft, Nat.testBit_two_pow]

theorem maskOf_testBit : ∀ (l : List Nat) (i : Nat), (maskOf l).testBit i = decide (i ∈ l)
  | [], i => by simp [maskOf]
  | k :: l, i => by
    show (Nat.shiftLeft 1 k ||| maskOf l).testBit i = _
    rw [Nat.testBit_or, bit_testBit, maskOf_testBit l i, Bool.eq_iff_iff, Bool.or_eq_true, decide_eq_true_eq, decide_eq_true_eq, decide_eq_true_eq, List.mem_cons]
    exact ⟨fun h => h.imp Eq.symm id, fun h => h.imp Eq.symm id⟩

theorem hasBit_iff (m i : Nat) : hasBit m i = m.testBit i := by
  unfold hasBit Nat.testBit
  show Nat.beq ((m >>> i) &&& 1) 1 = (1 &&& (m >>> i) != 0)
  rw [Nat.and_comm, Nat.one_and_eq_mod_two]
  rcases Nat.mod_two_eq_zero_or_one (m >>> i) with h | h <;> rw [h] <;> rfl

theorem apart_spec {a b : Nat} (h : apart a b = true) (i : Nat) (ha : a.testBit i = true) (hb : b.testBit i = true) : False := by
  have h0 : a &&& b = 0 := Nat.eq_of_beq_eq_true h
  have := Nat.testBit_and a b i
  rw [h0, ha, hb, Nat.zero_testBit] at this
  cases this

theorem not_mem_of_apart {l l' : List Nat} (h : apart (maskOf l) (maskOf l') = true) {k : Nat} (hk : k ∈ l) : k ∉ l' := fun hk' =>
  apart_spec h k (by rw [maskOf_testBit]; simpa using hk) (by rw [maskOf_testBit]; simpa using hk')

theorem not_mem_of_apart2 {l l' l'' : List Nat} (h : apart (maskOf l) (Nat.lor (maskOf l') (maskOf l'')) = true) {k : Nat} (hk : k ∈ l) : k ∉ l' ∧ k ∉ l'' := by
  have key : ∀ x : Bool, (maskOf l' ||| maskOf l'').testBit k = x → x = true → False := fun x hx hx2 => apart_spec h k (by rw [maskOf_testBit]; simpa using hk) (hx.trans hx2)
  constructor <;> intro hk' <;> refine key _ (Nat.testBit_or _ _ _) ?_ <;> rw [maskOf_testBit, maskOf_testBit] <;> simp [hk']

theorem disjoint_of_apart {l l' : List Nat} (h : apart (maskOf l) (maskOf l') = true) : disjoint l l' = true := by
  unfold disjoint
  refine List.all_eq_true.2 fun k hk => ?_
  simpa using not_mem_of_apart h hk

/-- What a record says of an operation. -/
structure PMOk (ops2 : List Op2) (es : List (Option Eff)) (p : PM) (o : Op2) : Prop where
  get : ops2[p.i]? = some o
  d : p.d = maskOf o.dst.toList
  l : p.l = maskOf (o.looks ops2)
  u : p.u = maskOf (updN (es.getD p.i none))
  f : p.f = maskOf (fpOf (es.getD p.i none))
  am : ∀ k, p.am.testBit k = true → AheadR ops2 p.i k

theorem pairOk_spec {ops2 : List Op2} {es : List (Option Eff)} {p q : PM} {x y : Op2} (hp : PMOk ops2 es p x) (hq : PMOk ops2 es q y) (h : pairOk p q = true) : free2 ops2 x y (es.getD p.i none) (es.getD q.i none) = true := by
  unfold pairOk at h
  simp only [Bool.and_eq_true] at h
  obtain ⟨h1, h2, h3, h4⟩ := h
  rw [hp.d, hq.l, hq.d] at h1
  rw [hq.d, hp.l] at h2
  rw [hp.u, hq.f] at h3
  rw [hq.u, hp.f] at h4
  unfold free2
  simp only [Bool.and_eq_true]
  refine ⟨⟨?_, ?_⟩, ?_⟩
  · cases hd : x.dst with
    | none => rfl
    | some d =>
      rw [hd] at h1
      have := not_mem_of_apart2 h1 (k := d) (by simp)
      simp only [Bool.and_eq_true]
      refine ⟨by simpa using this.1, ?_⟩
      have h2 := this.2
      cases hy : y.dst with
      | none => rfl
      | some d' => rw [hy] at h2; simp at h2 ⊢; exact fun e => h2 e.symm
  · cases hd : y.dst with
    | none => rfl
    | some d =>
      rw [hd] at h2
      have := not_mem_of_apart h2 (k := d) (by simp)
      simpa using this
  · cases hx : es.getD p.i none with
    | none => rfl
    | some a =>
      cases hy : es.getD q.i none with
      | none => rfl
      | some b =>
        rw [hx, hy] at h3 h4
        simp only [Bool.and_eq_true]
        exact ⟨disjoint_of_apart h3, disjoint_of_apart h4⟩

theorem chkPrev_spec {q : PM} : ∀ {l : List PM}, chkPrev q l = true → ∀ p, p ∈ l → q.am.testBit p.i = true ∨ pairOk p q = true
  | [], _, p, hp => by cases hp
  | x :: l, h, p, hp => by
    simp only [chkPrev] at h
    split at h
    · rename_i hb
      rcases List.mem_cons.1 hp with rfl | hp
      · exact .inl (by rw [← hasBit_iff]; exact hb)
      · exact chkPrev_spec h p hp
    · split at h
      · rename_i hb
        rcases List.mem_cons.1 hp with rfl | hp
        · exact .inr hb
        · exact chkPrev_spec h p hp
      · cases h

theorem lookAm_spec {j k : Nat} : ∀ {l : List PM}, (lookAm j l).testBit k = true → ∃ p, p ∈ l ∧ p.i = j ∧ p.am.testBit k = true
  | [], h => by simp [lookAm] at h
  | p :: l, h => by
    simp only [lookAm] at h
    split at h
    · rename_i hb
      exact ⟨p, List.mem_cons_self, Nat.eq_of_beq_eq_true hb, h⟩
    · obtain ⟨q, hq, h1⟩ := lookAm_spec h
      exact ⟨q, List.mem_cons_of_mem _ hq, h1⟩

theorem aheadMask_spec {prev : List PM} {k : Nat} : ∀ {l : List Nat}, (aheadMask prev l).testBit k = true → ∃ j, j ∈ l ∧ (k = j ∨ ∃ p, p ∈ prev ∧ p.i = j ∧ p.am.testBit k = true)
  | [], h => by simp [aheadMask] at h
  | j :: l, h => by
    have h : ((Nat.shiftLeft 1 j ||| lookAm j prev) ||| aheadMask prev l).testBit k = true := h
    rw [Nat.testBit_or, Nat.testBit_or, bit_testBit] at h
    simp only [Bool.or_eq_true, decide_eq_true_eq] at h
    rcases h with (h | h) | h
    · exact ⟨j, List.mem_cons_self, .inl h.symm⟩
    · exact ⟨j, List.mem_cons_self, .inr (lookAm_spec h)⟩
    · obtain ⟨j', hj', h1⟩ := aheadMask_spec h
      exact ⟨j', List.mem_cons_of_mem _ hj', h1⟩

theorem chkGo_spec {ops2 : List Op2} {es : List (Option Eff)} : ∀ (rest : List Op2) (er : List (Option Eff)) (n : Nat) (prev : List PM), chkGo ops2 rest er n prev = true → ops2.drop n = rest → es.drop n = er →
    (∀ p, p ∈ prev → ∃ o, PMOk ops2 es p o) → (∀ i, i < n → ∃ p, p ∈ prev ∧ p.i = i) →
    ∀ (i j : Nat) x y, n ≤ j → i < j → ops2[i]? = some x → ops2[j]? = some y → AheadR ops2 j i ∨ free2 ops2 x y (es.getD i none) (es.getD j none) = true
  | [], er, n, prev, h, hr, he, hp, hc, i, j, x, y, hn, hij, hx, hy => by
    have : ops2.length ≤ n := by
      have := congrArg List.length hr
      simp at this
      omega
    have := (List.getElem?_eq_some_iff.1 hy).1
    omega
  | o :: rest, er, n, prev, h, hr, he, hp, hc, i, j, x, y, hn, hij, hx, hy => by
    have hget : ops2[n]? = some o := by
      have : (ops2.drop n)[0]? = some o := by rw [hr]; rfl
      simpa using this
    have hes : er.headD none = es.getD n none := by
      rw [← he]
      simp [List.getD, List.head?_drop, List.headD_eq_head?_getD]
    simp only [chkGo, withPM, forceN_eq] at h
    split at h
    rotate_left
    · cases h
    rename_i hchk
    have hq : PMOk ops2 es ⟨n, aheadMask prev o.ahead, maskOf o.dst.toList, maskOf (o.looks ops2), maskOf (updN (er.headD none)), maskOf (fpOf (er.headD none))⟩ o := by
      refine ⟨hget, rfl, rfl, by rw [hes], by rw [hes], fun k hk => ?_⟩
      obtain ⟨j, hj, hk⟩ := aheadMask_spec hk
      rcases hk with rfl | ⟨p, hpm, hpi, hk⟩
      · exact .one hget hj
      · obtain ⟨o', hp'⟩ := hp p hpm
        subst hpi
        exact .more hget hj (hp'.am k hk)
    by_cases hnj : j = n
    · subst hnj
      obtain rfl : o = y := Option.some.inj (hget.symm.trans hy)
      obtain ⟨p, hpm, rfl⟩ := hc i hij
      obtain ⟨o', hp'⟩ := hp p hpm
      obtain rfl : o' = x := Option.some.inj (hp'.get.symm.trans hx)
      rcases chkPrev_spec hchk p hpm with h1 | h1
      · exact .inl (hq.am _ h1)
      · exact .inr (pairOk_spec hp' hq h1)
    · refine chkGo_spec rest er.tail (n + 1) _ h ?_ ?_ ?_ ?_ i j x y (by omega) hij hx hy
      · rw [← List.tail_drop, hr]; rfl
      · rw [← List.tail_drop, he]
      · intro p hpm
        rcases List.mem_cons.1 hpm with rfl | hpm
        · exact ⟨o, hq⟩
        · exact hp p hpm
      · intro i hi
        by_cases h' : i = n
        · exact ⟨_, List.mem_cons_self, h'.symm⟩
        · obtain ⟨p, hpm, hpi⟩ := hc i (by omega)
          exact ⟨p, List.mem_cons_of_mem _ hpm, hpi⟩

theorem any_sound (hn : cb.Nat) (hcb : cb.CallsOK P) (R : Reg P cb byRef ops ops2 st es) (hah : aheadOk 0 ops2 = true) (hfr : ∀ (i j : Nat) x y, i < j → ops2[i]? = some x → ops2[j]? = some y → AheadR ops2 j i ∨ free2 ops2 x y (es.getD i none) (es.getD j none) = true) {w0 : World} {β0 : Loc} {Q : Exit → Act → World → Prop}
    (hQ : ∀ a' w' β', Step w0 w' β0 β' → FR w' (β'.away Z) β' (foldAll (fun _ => true) 0 ops2 es st).tmps a' → MR w' Z β' (foldAll (fun _ => true) 0 ops2 es st).mem → Q .normal a' w') :
    ∀ (fuel : Nat) (listed : Array Bool) (β : Loc) (a : Act) (w : World), listed.size = ops2.length → listed.toList.count false ≤ fuel →
      (∀ (j : Nat) o, listed.getD j false = true → ops2[j]? = some o → ∀ i, i ∈ o.ahead → listed.getD i false = true) →
      Step w0 w β0 β → FR w (β.away Z) β (foldAll (fun j => listed.getD j false) 0 ops2 es st).tmps a → MR w Z β (foldAll (fun j => listed.getD j false) 0 ops2 es st).mem →
      wpAny P .any ops Q fuel listed a w := by
  have hsz : ops.size = ops2.length := by have := allSome_len R.comp; simpa using this.symm
  intro fuel
  -- where nothing is ready, all is done
  have hdone : ∀ (listed : Array Bool), listed.size = ops2.length → Region.ready .any ops listed = [] → ∀ i, i < ops2.length → listed.getD i false = true := by
    intro listed hsize hr i
    induction i using Nat.strongRecOn with
    | ind i ih =>
      intro hi
      cases hli : listed.getD i false with
      | true => rfl
      | false =>
        exfalso
        have hio : i < ops.size := by omega
        have : i ∈ Region.ready .any ops listed := by
          refine mem_ready.2 ⟨?_, ops[i], by simp [hio], fun e he hb => ?_⟩
          · have : i < listed.size := by omega
            simp [this] at hli ⊢
            exact hli
          · obtain ⟨o2, h2, _, _, _, hahd⟩ := compOper_get R.comp (i := i) (o := ops[i]) (by simp [hio])
            have hmem : e.on ∈ o2.ahead := by
              rw [hahd]
              exact List.mem_map.2 ⟨e, List.mem_filter.2 ⟨by simpa using he, hb⟩, rfl⟩
            have := aheadOk_get ops2 0 i o2 hah h2 e.on hmem
            exact ih e.on (by omega) (by omega)
        rw [hr] at this
        cases this
  have hfin : ∀ (listed : Array Bool) (β : Loc) (a : Act) (w : World), listed.size = ops2.length → Region.ready .any ops listed = [] → Step w0 w β0 β → FR w (β.away Z) β (foldAll (fun j => listed.getD j false) 0 ops2 es st).tmps a → MR w Z β (foldAll (fun j => listed.getD j false) 0 ops2 es st).mem → Q .normal a w := by
    intro listed β a w hsize hr hs hF hm
    have hall := hdone listed hsize hr
    refine hQ a w β hs ⟨by rw [hF.len, foldAll_len, foldAll_len], fun t => ?_, hF.defers⟩ (hm.congr fun q => (get_congr ops2 es 0 st st rfl fun k e hk _ _ => by rw [Nat.zero_add]; exact hall k hk).symm)
    rw [← slot_congr (sel := fun j => listed.getD j false) ops2 es 0 st st rfl rfl fun k o ho _ => by rw [Nat.zero_add]; exact hall k (List.getElem?_eq_some_iff.1 ho).1]
    exact hF.val t
  induction fuel with
  | zero =>
    intro listed β a w hsize hcount hcl hs hF hm
    have hr : Region.ready .any ops listed = [] := by
      cases hr : Region.ready .any ops listed with
      | nil => rfl
      | cons i l =>
        have hi : i ∈ Region.ready .any ops listed := by rw [hr]; exact List.mem_cons_self
        obtain ⟨h1, _⟩ := mem_ready.1 hi
        have : false ∈ listed.toList := by
          rcases Nat.lt_or_ge i listed.size with h | h
          · simp [h] at h1
            rw [← h1]
            simp
          · simp [Array.getElem?_eq_none h] at h1
        have := List.count_pos_iff.2 this
        omega
    exact ⟨hr, hfin listed β a w hsize hr hs hF hm⟩
  | succ fuel ih =>
    intro listed β a w hsize hcount hcl hs hF hm
    refine ⟨fun hr => hfin listed β a w hsize hr hs hF hm, fun i hi => ?_⟩
    obtain ⟨hun, o, ho, hall⟩ := mem_ready.1 hi
    have hil : i < listed.size := by
      rcases Nat.lt_or_ge i listed.size with h | h
      · exact h
      · simp [Array.getElem?_eq_none h] at hun
    have hunf : listed.getD i false = false := by simp [hil] at hun ⊢; exact hun
    obtain ⟨oi, hoi, _, _, _, hahd⟩ := compOper_get R.comp (i := i) (o := o) (by rw [Array.getElem?_toList]; exact ho)
    have hei : es[i]? = some (es[i]'(by rw [R.len]; omega)) := List.getElem?_eq_getElem _
    have hdirect : ∀ j, j ∈ oi.ahead → listed.getD j false = true := by
      intro j hj
      rw [hahd] at hj
      obtain ⟨e, he, rfl⟩ := List.mem_map.1 hj
      rw [List.mem_filter] at he
      exact hall e (by simpa using he.1) he.2
    have hgetD : ∀ (j : Nat) ej, es[j]? = some ej → es.getD j none = ej := fun j ej h => by simp [List.getD, h]
    refine reg_step hn hcb R hoi hei (sel := fun j => listed.getD j false) hunf (fun j oj ej hoj hej hji => ?_) hF hm fun a' w' β' hs' hF' hm' => ?_
    · have hspec := hfr
      rcases Nat.lt_or_ge j i with hlt | hge
      · have := hspec j i oj oi hlt hoj hoi
        rw [hgetD j ej hej, hgetD i _ hei] at this
        rcases this with h | h
        · left
          have := ahead_closed (S := fun k => listed.getD k false = true) (fun j o h1 h2 i h3 => hcl j o h1 h2 i h3) h (fun o' ho' k hk => by rw [hoi] at ho'; cases ho'; exact hdirect k hk)
          simp only [this, hlt, decide_true]
        · exact .inr (.inl ⟨hlt, h⟩)
      · have hlt : i < j := by omega
        have := hspec i j oi oj hlt hoi hoj
        rw [hgetD j ej hej, hgetD i _ hei] at this
        rcases this with h | h
        · left
          cases hlj : listed.getD j false with
          | false => simp; omega
          | true =>
            have := ahead_closed (S := fun k => listed.getD k false = true) (fun j o h1 h2 i h3 => hcl j o h1 h2 i h3) h (fun o' ho' k hk => hcl j o' hlj ho' k hk)
            rw [hunf] at this
            cases this
        · exact .inr (.inr ⟨hlt, h⟩)
    · have e : (fun j => listed.getD j false || j == i) = fun j => (listed.setIfInBounds i true).getD j false := by
        funext j
        by_cases h : i = j
        · subst h
          simp [hil]
        · rw [getD_set_ne false h]
          have : (j == i) = false := by simp; omega
          rw [this, Bool.or_false]
      rw [e] at hF' hm'
      refine ih _ β' a' w' (by simp [hsize]) ?_ (fun j o' hj ho' k hk => ?_) (hs.trans hs') hF' hm'
      · have h1 : listed.toList[i]? = some false := by
          simp [hil] at hunf ⊢
          exact hunf
        have := count_set listed.toList i h1
        simp only [Array.toList_setIfInBounds]
        omega
      · by_cases h : i = j
        · subst h
          rw [hoi] at ho'
          cases ho'
          exact getD_set_true (hdirect k hk)
        · rw [getD_set_ne false h] at hj
          exact getD_set_true (hcl j o' hj ho' k hk)

theorem region_sound (hn : cb.Nat) (hcb : cb.CallsOK P) {id : Nat} {draw : Bool} (hmix : P.follows .mixedOrders = true) (hc : allSome (compOper P) ops.toList = some ops2) (hah : aheadOk 0 ops2 = true) {st' : St} {tr : List (Option Eff)}
    (hrun : runOps cb byRef ops2 ops2 st [] (fun s t => some (s, t)) = some (st', tr)) (hany : draw = true → anyOrder ops2 tr = true) {w : World} {β : Loc} {a : Act} (hF : FR w (β.away Z) β st.tmps a) (hm : MR w Z β st.mem)
    {Q : Exit → Act → World → Prop} (hQ : ∀ a' w' β', Step w w' β β' → FR w' (β'.away Z) β' st'.tmps a' → MR w' Z β' st'.mem → Q .normal a' w') : (Code.region id ops draw).wp P Q a w := by
  obtain ⟨es, hl, htr, rfl, hcame⟩ := runOps_ran hn ops2 0 st [] _ _ hrun
  have hsz : ops.size = ops2.length := by have := allSome_len hc; simpa using this.symm
  have R : Reg P cb byRef ops ops2 st es := ⟨hc, hl, fun k o e ho he => by simpa using hcame k o e ho he⟩
  have hno : ∀ (l : List Op2) (i : Nat) (es : List (Option Eff)) (s : St), foldAll (fun _ => false) i l es s = s := by
    intro l
    induction l with
    | nil => intro i es s; rfl
    | cons x l ih =>
      intro i es s
      cases es with
      | nil => rfl
      | cons y es => exact ih (i + 1) es s
  cases draw with
  | false =>
    refine wp_region ?_
    rw [List.range_eq_range', hsz]
    have e : (fun j => decide (j < 0)) = fun _ => false := by funext j; simp
    exact text_sound hn hcb R hQ ops2.length 0 β a w (by omega) (Step.refl w β) (by rw [e, hno]; exact hF) (by rw [e, hno]; exact hm)
  | true =>
    refine wp_region_any hmix ?_
    have hd : Step w { w with drawn := w.drawn + 1 } β β := ⟨rfl, rfl, rfl, Nat.le_refl _, fun _ _ _ => rfl, fun _ h => .inl h, Loc.le_refl β⟩
    have e : (fun j => (Array.replicate ops.size false).getD j false) = fun _ => false := by
      funext j
      by_cases h : j < ops.size <;> simp [h]
    have hfr := hany rfl
    rw [htr] at hfr
    simp only [anyOrder, List.append_nil, List.reverse_reverse] at hfr
    replace hfr := fun i j x y hij hx hy => chkGo_spec (es := es) ops2 es 0 [] hfr rfl rfl (fun p hp => by cases hp) (fun i hi => by omega) i j x y (Nat.zero_le _) hij hx hy
    refine any_sound hn hcb R hah hfr hQ ops.size _ β a _ (by simp [hsz]) ?_ (fun j o hj => ?_) hd (by rw [e, hno]; exact ⟨hF.len, fun t => SV.R_step hd.stays hd.le _ _ (hF.val t), hF.defers⟩) (by rw [e, hno]; exact hm.drew)
    · simp [List.count_replicate]
    · rw [congrFun e j] at hj; cases hj
end
end Go.Proofs.Ytgfanlafbjbkaaa.S2
