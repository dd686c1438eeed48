/-
  S2, seventeenth part: a call is sound if what is said of its callee is.
-/
import Derived.Test.YtgfanlafbjbkaaaS2p
set_option linter.unusedVariables false
set_option linter.unusedSimpArgs false
namespace Go.Proofs.Ytgfanlafbjbkaaa.S2
open Go

theorem get_mem {m : Mem} : ∀ {q : Nat} {o : Ob}, m.get q = some o → (q, o) ∈ m := by
  induction m with
  | nil => intro q o h; cases h
  | cons x m ih =>
    obtain ⟨k, o'⟩ := x
    intro q o h
    simp only [Mem.get] at h
    split at h
    · rename_i hq
      cases h
      subst hq
      exact List.mem_cons_self
    · exact List.mem_cons_of_mem _ (ih h)

theorem mem_names {m : Mem} {q : Nat} : q ∈ names m ↔ ∃ o, (q, o) ∈ m := by
  induction m with
  | nil => simp [names]
  | cons x m ih =>
    obtain ⟨k, o⟩ := x
    simp only [names, List.mem_cons, ih]
    constructor
    · rintro (rfl | ⟨o', h⟩)
      · exact ⟨o, .inl rfl⟩
      · exact ⟨o', .inr h⟩
    · rintro ⟨o', h | h⟩
      · cases h; exact .inl rfl
      · exact .inr ⟨o', h⟩

theorem get_of_mem {m : Mem} : ∀ {q : Nat} {o : Ob}, (names m).Nodup → (q, o) ∈ m → m.get q = some o := by
  induction m with
  | nil => intro q o _ h; cases h
  | cons x m ih =>
    obtain ⟨k, o'⟩ := x
    intro q o hn h
    simp only [names, List.nodup_cons] at hn
    simp only [Mem.get]
    rcases List.mem_cons.1 h with h | h
    · cases h; rw [if_pos rfl]
    · have hne : q ≠ k := fun e => hn.1 (mem_names.2 ⟨o, e ▸ h⟩)
      rw [if_neg hne]
      exact ih hn.2 h

theorem get_sets_mem : ∀ {l : List (Nat × Ob)} {m : Mem} {q : Nat} {o : Ob}, (names l).Nodup → (q, o) ∈ l → (m.sets l).get q = some o
  | [], m, q, o, _, h => by cases h
  | (k, o') :: l, m, q, o, hn, h => by
    simp only [names, List.nodup_cons] at hn
    simp only [Mem.sets]
    rcases List.mem_cons.1 h with h | h
    · cases h
      rw [Mem.get_sets l _ _ (fun o' ho' => hn.1 (mem_names.2 ⟨o', ho'⟩)), Mem.get_set, if_pos rfl]
    · exact get_sets_mem hn.2 h

theorem mem_back {ks : List Nat} {d : Nat} : ∀ {m : Mem} {q : Nat} {o : Ob}, (q, o) ∈ backMem ks d m ↔ ∃ j o0, (j, o0) ∈ m ∧ q = backName ks d j ∧ o = o0.ren fun q => some (backName ks d q)
  | [], q, o => by simp [backMem]
  | (j, o0) :: m, q, o => by
    simp only [backMem, List.mem_cons, mem_back]
    constructor
    · rintro (h | ⟨j', o', h1, h2, h3⟩)
      · cases h; exact ⟨j, o0, .inl rfl, rfl, rfl⟩
      · exact ⟨j', o', .inr h1, h2, h3⟩
    · rintro ⟨j', o', h | h, h2, h3⟩
      · cases h; exact .inl (by rw [h2, h3])
      · exact .inr ⟨j', o', h, h2, h3⟩

theorem back_inj {ks : List Nat} {d : Nat} : ∀ {m : Mem}, (names (backMem ks d m)).Nodup → ∀ {j j' : Nat} {o o' : Ob}, (j, o) ∈ m → (j', o') ∈ m → backName ks d j = backName ks d j' → j = j' ∧ o = o'
  | [], _, j, j', o, o', h, _, _ => by cases h
  | (i, x) :: m, hn, j, j', o, o', h, h', e => by
    simp only [backMem, names, List.nodup_cons] at hn
    rcases List.mem_cons.1 h with h | h <;> rcases List.mem_cons.1 h' with h' | h'
    · cases h; cases h'; exact ⟨rfl, rfl⟩
    · cases h
      exact absurd (mem_names.2 ⟨_, mem_back.2 ⟨j', o', h', e, rfl⟩⟩) hn.1
    · cases h'
      exact absurd (mem_names.2 ⟨_, mem_back.2 ⟨j, o, h, e.symm, rfl⟩⟩) hn.1
    · exact back_inj hn.2 h h' e

def backKey (ks : List Nat) (d : Nat) : Mem → Nat → Option Nat
  | [], _ => none
  | (j, _) :: l, q => if q = backName ks d j then some j else backKey ks d l q

theorem backKey_some {ks : List Nat} {d : Nat} : ∀ {m : Mem} {q j : Nat}, backKey ks d m q = some j → q = backName ks d j ∧ ∃ o, (j, o) ∈ m
  | [], q, j, h => by cases h
  | (i, x) :: m, q, j, h => by
    simp only [backKey] at h
    split at h
    · rename_i hq
      cases h
      exact ⟨hq, x, List.mem_cons_self⟩
    · obtain ⟨h1, o, h2⟩ := backKey_some h
      exact ⟨h1, o, List.mem_cons_of_mem _ h2⟩

theorem backKey_none {ks : List Nat} {d : Nat} : ∀ {m : Mem} {q : Nat}, backKey ks d m q = none ↔ q ∉ names (backMem ks d m)
  | [], q => by simp [backKey, backMem, names]
  | (i, x) :: m, q => by
    simp only [backKey, backMem, names, List.mem_cons, not_or]
    split
    · rename_i hq
      simp [hq]
    · rename_i hq
      rw [backKey_none]
      simp [hq]

theorem backKey_mem {ks : List Nat} {d : Nat} {m : Mem} (hn : (names (backMem ks d m)).Nodup) {j : Nat} {o : Ob} (h : (j, o) ∈ m) : backKey ks d m (backName ks d j) = some j := by
  cases hb : backKey ks d m (backName ks d j) with
  | none => exact absurd (mem_names.2 ⟨_, mem_back.2 ⟨j, o, h, rfl, rfl⟩⟩) (backKey_none.1 hb)
  | some i =>
    obtain ⟨h1, o', h2⟩ := backKey_some hb
    rw [(back_inj hn h h2 h1).1]

theorem backName_lt {ks : List Nat} {d j k : Nat} (h : ks[j]? = some k) : backName ks d j = k := by
  have := (List.getElem?_eq_some_iff.1 h).1
  simp only [backName, if_pos this, List.getD, h, Option.getD]

theorem nodup_get : ∀ {l : List Nat} {i j k : Nat}, l.Nodup → l[i]? = some k → l[j]? = some k → i = j
  | [], i, j, k, _, h, _ => by simp at h
  | x :: l, i, j, k, hn, h, h' => by
    rw [List.nodup_cons] at hn
    cases i with
    | zero =>
      cases j with
      | zero => rfl
      | succ j => simp at h h'; subst h; exact absurd (List.mem_of_getElem? h') hn.1
    | succ i =>
      cases j with
      | zero => simp at h h'; subst h'; exact absurd (List.mem_of_getElem? h) hn.1
      | succ j => exact congrArg Nat.succ (nodup_get (l := l) (k := k) hn.2 (by simpa using h) (by simpa using h'))

mutual
theorem lent_row {m : Mem} : (x : SV) → ∀ k, k ∈ x.lent m → ∃ e r xs, m.get k = some (.row e r xs)
  | .sl k off len, q, h => by
    simp only [SV.lent] at h
    split at h
    · rename_i e r xs hg
      simp only [List.mem_singleton] at h
      subst h
      exact ⟨e, r, xs, hg⟩
    · cases h
  | .slw k, q, h => by
    simp only [SV.lent] at h
    split at h
    · rename_i e r xs hg
      simp only [List.mem_singleton] at h
      subst h
      exact ⟨e, r, xs, hg⟩
    · cases h
  | .agg cs, q, h => lentL_row cs q (by simpa [SV.lent] using h)
  | .dead, _, h => by cases h
  | .int _ _, _, h => by cases h
  | .bool _, _, h => by cases h
  | .str _, _, h => by cases h
  | .ps _ _ _, _, h => by cases h
  | .nils, _, h => by cases h
  | .pe, _, h => by cases h
  | .ptr _ _ _, _, h => by cases h
  | .pptr _ _ _ _ _, _, h => by cases h
  | .nilp, _, h => by cases h
  | .tup _, _, h => by cases h
  | .fn _ _, _, h => by cases h
  | .nilf, _, h => by cases h
  | .nili, _, h => by cases h
  | .nilm, _, h => by cases h
theorem lentL_row {m : Mem} : (l : List SV) → ∀ k, k ∈ SV.lent.lentL m l → ∃ e r xs, m.get k = some (.row e r xs)
  | [], q, h => by cases h
  | x :: l, q, h => by
    simp only [SV.lent.lentL, List.mem_append] at h
    exact h.elim (lent_row x q) (lentL_row l q)
end

theorem names_append : ∀ (m m' : Mem), names (m ++ m') = names m ++ names m'
  | [], _ => rfl
  | (k, o) :: m, m' => by simp [names, names_append m m']

theorem back_append {ks : List Nat} {d : Nat} : ∀ (m m' : Mem), backMem ks d (m ++ m') = backMem ks d m ++ backMem ks d m'
  | [], _ => rfl
  | (k, o) :: m, m' => by simp [backMem, back_append m m']

theorem back_nodup {ks : List Nat} {d : Nat} : ∀ {m : Mem}, (names (backMem ks d m)).Nodup → (names m).Nodup
  | [], _ => List.nodup_nil
  | (j, o) :: m, hh => by
    simp only [backMem, names, List.nodup_cons] at hh ⊢
    refine ⟨fun hj => hh.1 ?_, back_nodup hh.2⟩
    obtain ⟨o', ho'⟩ := mem_names.1 hj
    exact mem_names.2 ⟨_, mem_back.2 ⟨j, o', ho', rfl, rfl⟩⟩

theorem get_append {q : Nat} : ∀ (m m' : Mem), (m ++ m').get q = match m.get q with | some o => some o | none => m'.get q
  | [], _ => rfl
  | (k, o) :: m, m' => by
    simp only [List.cons_append, Mem.get]
    split
    · rfl
    · exact get_append m m'

theorem get_filter {q : Nat} (p : Nat → Bool) : ∀ (m : Mem), Mem.get (m.filter fun x => p x.1) q = if p q = true then m.get q else none
  | [] => by simp [Mem.get]
  | (k, o) :: m => by
    simp only [List.filter_cons]
    by_cases hk : p k = true
    · rw [if_pos hk]
      simp only [Mem.get]
      by_cases hq : q = k
      · subst hq; rw [if_pos rfl, if_pos rfl, if_pos hk]
      · rw [if_neg hq, if_neg hq]; exact get_filter p m
    · rw [if_neg hk, get_filter p m]
      simp only [Mem.get]
      by_cases hq : q = k
      · subst hq; rw [if_neg hk, if_neg hk]
      · rw [if_neg hq]

theorem fill_get {s m : Mem} (hn : (names m).Nodup) (q : Nat) : (fillMem s m).get q = (s.sets m).get q := by
  unfold fillMem
  rw [get_append, get_filter fun k => !(names m).contains k]
  by_cases hq : q ∈ names m
  · obtain ⟨o, ho⟩ := mem_names.1 hq
    rw [if_neg (by simpa using hq), get_sets_mem hn ho]
    exact get_of_mem hn ho
  · rw [if_pos (by simpa using hq), Mem.get_sets _ _ _ fun o ho => hq (mem_names.2 ⟨o, ho⟩)]
    cases hs : s.get q with
    | some o => rfl
    | none =>
      cases hg : m.get q with
      | none => rfl
      | some o => exact (hq (mem_names.2 ⟨o, get_mem hg⟩)).elim

theorem fill_names {s m : Mem} {j : Nat} {o : Ob} (h : (j, o) ∈ s) : ∃ o', (j, o') ∈ fillMem s m := by
  unfold fillMem
  by_cases hj : j ∈ names m
  · obtain ⟨o', ho'⟩ := mem_names.1 hj
    exact ⟨o', List.mem_append_right _ ho'⟩
  · exact ⟨o, List.mem_append_left _ (List.mem_filter.2 ⟨h, by simpa using hj⟩)⟩

theorem subMem_ge {m : Mem} {ρ : Nat → Option Nat} : ∀ {ks : List Nat} {i j : Nat} {o : Ob}, (j, o) ∈ subMem m ρ ks i → i ≤ j
  | [], i, j, o, h => by cases h
  | k :: ks, i, j, o, h => by
    simp only [subMem] at h
    split at h
    · rcases List.mem_cons.1 h with h | h
      · cases h; exact Nat.le_refl _
      · exact Nat.le_of_succ_le (subMem_ge h)
    · exact Nat.le_of_succ_le (subMem_ge h)

theorem subMem_names {m : Mem} {ρ : Nat → Option Nat} : ∀ {ks : List Nat} {i j : Nat} {o : Ob}, (j, o) ∈ subMem m ρ ks i → ∃ k, ks[j - i]? = some k
  | [], i, j, o, h => by cases h
  | k :: ks, i, j, o, h => by
    simp only [subMem] at h
    have hgo : (j, o) ∈ subMem m ρ ks (i + 1) → ∃ k', (k :: ks)[j - i]? = some k' := by
      intro h
      have hle := subMem_ge h
      obtain ⟨k', hk'⟩ := subMem_names h
      exact ⟨k', by rw [show j - i = (j - (i + 1)) + 1 by omega]; simpa using hk'⟩
    split at h
    · rcases List.mem_cons.1 h with h | h
      · cases h; exact ⟨k, by simp⟩
      · exact hgo h
    · exact hgo h

mutual
theorem SV.ren_back {ρ σ : Nat → Option Nat} : (x : SV) → (∀ k, k ∈ x.refs → (ρ k).bind σ = some k) → (x.ren ρ).ren σ = x
  | .sl k off len, h => by
    have := h k (by simp [SV.refs])
    cases hr : ρ k with
    | none => rw [hr] at this; cases this
    | some j => rw [hr] at this; simp only [Option.bind_some] at this; simp only [SV.ren, hr, this]
  | .slw k, h => by
    have := h k (by simp [SV.refs])
    cases hr : ρ k with
    | none => rw [hr] at this; cases this
    | some j => rw [hr] at this; simp only [Option.bind_some] at this; simp only [SV.ren, hr, this]
  | .ptr k i fo, h => by
    have := h k (by simp [SV.refs])
    cases hr : ρ k with
    | none => rw [hr] at this; cases this
    | some j => rw [hr] at this; simp only [Option.bind_some] at this; simp only [SV.ren, hr, this]
  | .agg cs, h => by simp only [SV.ren]; rw [SV.renL_back cs (by simpa [SV.refs] using h)]
  | .tup cs, h => by simp only [SV.ren]; rw [SV.renL_back cs (by simpa [SV.refs] using h)]
  | .fn f cs, h => by simp only [SV.ren]; rw [SV.renL_back cs (by simpa [SV.refs] using h)]
  | .dead, _ => rfl
  | .int _ _, _ => rfl
  | .bool _, _ => rfl
  | .str _, _ => rfl
  | .ps _ _ _, _ => rfl
  | .nils, _ => rfl
  | .pe, _ => rfl
  | .pptr _ _ _ _ _, _ => rfl
  | .nilp, _ => rfl
  | .nilf, _ => rfl
  | .nili, _ => rfl
  | .nilm, _ => rfl
theorem SV.renL_back {ρ σ : Nat → Option Nat} : (l : List SV) → (∀ k, k ∈ SV.refs.refsL l → (ρ k).bind σ = some k) → SV.ren.renL σ (SV.ren.renL ρ l) = l
  | [], _ => rfl
  | x :: l, h => by
    simp only [SV.ren.renL]
    rw [SV.ren_back x fun k hk => h k (by simp [SV.refs.refsL, hk]), SV.renL_back l fun k hk => h k (by simp [SV.refs.refsL, hk])]
end

theorem Ob.ren_back {ρ σ : Nat → Option Nat} (o : Ob) (h : ∀ k, k ∈ o.refs → (ρ k).bind σ = some k) : (o.ren ρ).ren σ = o := by
  cases o with
  | cells cs => simp only [Ob.ren]; rw [SV.renL_back cs (by simpa [Ob.refs] using h)]
  | row => rfl
  | froz => rfl
  | gone => rfl

theorem posIn_mem' : ∀ {ks : List Nat} {i k : Nat}, k ∈ ks → ∃ j, posIn ks i k = some j
  | [], _, _, h => by cases h
  | q :: ks, i, k, h => by
    simp only [posIn]
    split
    · exact ⟨i, rfl⟩
    · rename_i hne
      rcases List.mem_cons.1 h with rfl | h
      · exact (hne rfl).elim
      · exact posIn_mem' h

theorem freeze_names {m : Mem} {q : Nat} {o : Ob} : ∀ {l : List Nat}, (q, o) ∈ freeze m l → q ∈ l
  | [], h => by cases h
  | k :: l, h => by
    simp only [freeze] at h
    split at h
    · rcases List.mem_cons.1 h with h | h
      · cases h; exact List.mem_cons_self
      · exact List.mem_cons_of_mem _ (freeze_names h)
    · exact List.mem_cons_of_mem _ (freeze_names h)
theorem subMem_nodup {m : Mem} {ρ : Nat → Option Nat} : ∀ (ks : List Nat) (i : Nat), (names (subMem m ρ ks i)).Nodup
  | [], i => List.nodup_nil
  | k :: ks, i => by
    simp only [subMem]
    split
    · refine List.nodup_cons.2 ⟨fun h => ?_, subMem_nodup ks (i + 1)⟩
      obtain ⟨o, ho⟩ := mem_names.1 h
      have := subMem_ge ho
      omega
    · exact subMem_nodup ks (i + 1)


/-- What a callee did not tell of, told or not, is the same. -/
theorem back_fill {m m' mF : Mem} {ks lent : List Nat} {d q : Nat} {ice : Bool} (hclosed : closedIn m ks = true) (hdis : ∀ k, k ∈ lent → k ∉ ks)
    (hget : ∀ j, (subMem m (posIn ks 0) ks 0).get j = match ks[j]? with | some k => (m.get k).map (Ob.ren (posIn ks 0)) | none => none)
    (hmF : mF = fillMem (subMem m (posIn ks 0) ks 0) m') (hnb : (names (backMem ks d mF)).Nodup) :
    (m.sets ((if ice then freeze m lent else []) ++ backMem ks d mF)).get q = (m.sets ((if ice then freeze m lent else []) ++ backMem ks d m')).get q := by
  rw [Mem.sets_append, Mem.sets_append]
  have hsplit : backMem ks d mF = backMem ks d ((subMem m (posIn ks 0) ks 0).filter fun x => !(names m').contains x.1) ++ backMem ks d m' := by rw [hmF, fillMem, back_append]
  rw [hsplit] at hnb
  rw [hsplit, Mem.sets_append]
  rw [names_append] at hnb
  have hnb2 := (List.nodup_append.1 hnb).2.1
  have hnb1 := (List.nodup_append.1 hnb).1
  by_cases hq : q ∈ names (backMem ks d m')
  · obtain ⟨o, ho⟩ := mem_names.1 hq
    rw [get_sets_mem hnb2 ho, get_sets_mem hnb2 ho]
  · have hq' : ∀ o, (q, o) ∉ backMem ks d m' := fun o ho => hq (mem_names.2 ⟨o, ho⟩)
    rw [Mem.get_sets _ _ _ hq', Mem.get_sets _ _ _ hq']
    by_cases hq1 : q ∈ names (backMem ks d ((subMem m (posIn ks 0) ks 0).filter fun x => !(names m').contains x.1))
    · obtain ⟨o, ho⟩ := mem_names.1 hq1
      rw [get_sets_mem hnb1 ho]
      obtain ⟨j, o0, hj, rfl, rfl⟩ := mem_back.1 ho
      have hj' := (List.mem_filter.1 hj).1
      obtain ⟨k, hk⟩ := subMem_names hj'
      rw [Nat.sub_zero] at hk
      rw [backName_lt hk]
      have hkm := List.mem_of_getElem? hk
      have hkl : k ∉ lent := fun h => hdis k h hkm
      obtain ⟨o1, ho1⟩ : ∃ o, m.get k = some o := by
        have := List.all_eq_true.1 hclosed k hkm
        cases hg : m.get k with
        | none => rw [hg] at this; cases this
        | some o => exact ⟨o, rfl⟩
      have hfr : (m.sets (if ice then freeze m lent else [])).get k = m.get k := by
        cases ice with
        | false => rfl
        | true =>
          refine Mem.get_sets _ _ _ fun o ho => ?_
          exact hkl (freeze_names ho)
      rw [hfr, ho1]
      have hsn : (names (subMem m (posIn ks 0) ks 0)).Nodup := subMem_nodup ks 0
      have e1 := get_of_mem hsn hj'
      rw [hget, hk] at e1
      dsimp only at e1
      rw [ho1] at e1
      simp only [Option.map_some, Option.some.injEq] at e1
      rw [← e1]
      congr 1
      refine Ob.ren_back o1 fun k2 hk2 => ?_
      have h2 : k2 ∈ ks := by
        have := List.all_eq_true.1 hclosed k hkm
        rw [ho1] at this
        have := List.all_eq_true.1 this k2 hk2
        simpa using this
      obtain ⟨j2, hj2⟩ := posIn_mem' (i := 0) h2
      obtain ⟨_, h3⟩ := posIn_some hj2
      rw [Nat.sub_zero] at h3
      rw [hj2]
      simp only [Option.bind_some]
      rw [backName_lt h3]
    · rw [Mem.get_sets _ _ _ fun o ho => hq1 (mem_names.2 ⟨o, ho⟩)]

/-- What a table of callees says is so. -/
structure CB.CallsOK (P : Program) (cb : CB) : Prop where
  call : ∀ {f : FuncId} {args : List SV} {m : Mem} {v : SV} {m' : Mem}, cb.call f args m (fun v m' => some (v, m')) = some (v, m') → CallOK P f args m v m'

section
variable {P : Program} {w : World} {Z : Nat → Prop} {β : Loc} {m : Mem}

theorem LK.own_frz {l : LK} {b : Nat} (h : l.frz.own = some b) : l.own = some b ∧ l.frz = l := by
  cases l <;> first | exact ⟨h, rfl⟩ | cases h

theorem lentSome_row {m : Mem} (ps : Nat → Bool) : ∀ (l : List SV) (i : Nat) (k : Nat), k ∈ lentSome m ps i l → ∃ e r xs, m.get k = some (.row e r xs)
  | [], i, k, h => by cases h
  | x :: l, i, k, h => by
    simp only [lentSome, List.mem_append] at h
    rcases h with h | h
    · cases hp : ps i with
      | true =>
        rw [hp] at h
        exact lentL_row [x] k (by simpa [SV.lent.lentL] using h)
      | false => rw [hp] at h; cases h
    · exact lentSome_row ps l (i + 1) k h

theorem pureSome_R {m : Mem} {w : World} {Z : Nat → Prop} {β : Loc} (hm : MR w Z β m) {lent : List Nat} {A' : Nat → Prop} (hst : Stays w w (β.away Z) A') (hA : ∀ b, A' b → (β.freezeL lent).away Z b) {β' : Loc} {ρ : Nat → Option Nat} (hρ : ∀ k l j, β k = some l → ρ k = some j → β' j = some l) (ps : Nat → Bool) :
    ∀ (l : List SV) (i : Nat) (vs : List Value), (∀ k, k ∈ lentSome m ps i l → k ∈ lent) → SV.RL w (β.away Z) β l vs → SV.RL w A' β' (SV.ren.renL ρ (pureSome m ps i l)) vs
  | [], i, vs, _, e => e
  | x :: l, i, vs, hk, hr => by
    simp only [pureSome, SV.ren.renL, SV.RL] at hr ⊢
    obtain ⟨v, vs', hv, hx, hl⟩ := hr
    refine ⟨v, vs', hv, ?_, pureSome_R hm hst hA hρ ps l (i + 1) vs' (fun k h => hk k (by simp [lentSome, h])) hl⟩
    cases hp : ps i with
    | true => exact SV.pure_R hm hA hρ x v (fun k h => hk k (by simp [lentSome, hp, h])) hx
    | false => exact SV.ren_R hst hρ x v hx

theorem callx_sound {cb : CB} (hn : cb.Nat) (hcb : cb.CallsOK P) {byRef : FuncId → CC} {d : Nat} {f : FuncId} {args : List SV} {vs : List Value} {e : Eff} (hm : MR w Z β m)
    (h : callx cb byRef d f args m some = some e) (hx : SV.RL w (β.away Z) β args vs) : CallRun P f vs.toArray w (PostE Z w β m e) := by
  unfold callx callWith at h
  obtain ⟨as, has⟩ : ∃ as, as = callArgs byRef f args m := ⟨_, rfl⟩
  obtain ⟨lent, hlent⟩ : ∃ l, l = callLent byRef f args m := ⟨_, rfl⟩
  obtain ⟨ks, hks⟩ : ∃ l, l = callKeys as m := ⟨_, rfl⟩
  rw [← has, ← hlent, ← hks] at h
  split at h
  · rename_i hc
    simp only [Bool.and_eq_true] at hc
    obtain ⟨⟨hclosed, hdisj⟩, hdist⟩ := hc
    have hdis : ∀ k, k ∈ lent → k ∉ ks := by
      intro k hk hk'
      have := List.all_eq_true.1 hdisj k hk
      simp [hk'] at this
    have hnd : ks.Nodup := distinct_nodup hdist
    rw [hn.call] at h
    obtain ⟨⟨v, m'⟩, hcall, hback⟩ := Option.bind_eq_some_iff.1 h
    have hok := hcb.call hcall
    have hback : callBack d args lent ks m v m' = some e := by
      revert hback
      dsimp only
      cases callBack d args lent ks m v m' <;> simp
    have hget : ∀ j, (subMem m (posIn ks 0) ks 0).get j = match ks[j]? with | some k => (m.get k).map (Ob.ren (posIn ks 0)) | none => none := by
      intro j
      rw [get_subMem, if_pos (Nat.zero_le _), Nat.sub_zero]
      cases ks[j]? <;> rfl
    obtain ⟨βc, hβc⟩ : ∃ βc : Loc, βc = fun j => match ks[j]? with | some k => β k | none => none := ⟨_, rfl⟩
    obtain ⟨Z', hZ'⟩ : ∃ Z' : Nat → Prop, Z' = fun b => Z b ∨ ∃ k l, k ∉ ks ∧ k ∉ lent ∧ β k = some l ∧ l.own = some b := ⟨_, rfl⟩
    have hβj : ∀ j k, ks[j]? = some k → βc j = β k := by intro j k hk; rw [hβc]; simp only [hk]
    have hβs : ∀ j l, βc j = some l → ∃ k, ks[j]? = some k ∧ β k = some l := by
      intro j l hl
      rw [hβc] at hl
      dsimp only at hl
      split at hl
      · rename_i k hk; exact ⟨k, hk, hl⟩
      · cases hl
    have hown : ∀ b, βc.owned b → ∃ k l, k ∈ ks ∧ β k = some l ∧ l.own = some b := by
      rintro b ⟨j, l, hl, hb⟩
      obtain ⟨k, hk, hl'⟩ := hβs j l hl
      exact ⟨k, l, List.mem_of_getElem? hk, hl', hb⟩
    have hρ : ∀ k l j, β k = some l → posIn ks 0 k = some j → βc j = some l := by
      intro k l j hl hj
      obtain ⟨_, h2⟩ := posIn_some hj
      rw [Nat.sub_zero] at h2
      rw [hβj j k h2, hl]
    have hrow : ∀ k, k ∈ lent → ∃ e r xs, m.get k = some (.row e r xs) := by
      intro k hk
      rw [hlent] at hk
      unfold callLent at hk
      exact lentSome_row _ args 0 k hk
    have hst : Stays w w (β.away Z) (βc.away Z') := ⟨Nat.le_refl _, fun b _ hb => ⟨rfl, fun h' => hb (by
      rcases h' with h' | h'
      · obtain ⟨k, l, _, h1, h2⟩ := hown b h'
        exact .inl ⟨k, l, h1, h2⟩
      · rw [hZ'] at h'
        rcases h' with h' | ⟨k, l, _, _, h1, h2⟩
        · exact .inr h'
        · exact .inl ⟨k, l, h1, h2⟩)⟩⟩
    have hsub : MR w Z' βc (subMem m (posIn ks 0) ks 0) := by
      refine ⟨fun j o ho => ?_, fun j l hl => ?_, fun j j' l l' b hl hl' hb hb' => ?_, fun b hb hz => ?_, fun b hz => ?_⟩
      · rw [hget] at ho
        split at ho
        · rename_i k hk
          obtain ⟨o0, ho0, rfl⟩ := Option.map_eq_some_iff.1 ho
          obtain ⟨l, hl, hob⟩ := hm.obs k o0 ho0
          exact ⟨l, by rw [hβj j k hk, hl], hob.ren hst hρ⟩
        · cases ho
      · obtain ⟨k, hk, hl'⟩ := hβs j l hl
        obtain ⟨o, ho⟩ := hm.dom k l hl'
        exact ⟨o.ren (posIn ks 0), by rw [hget, hk]; simp [ho]⟩
      · obtain ⟨k, hk, h1⟩ := hβs j l hl
        obtain ⟨k', hk', h2⟩ := hβs j' l' hl'
        have hkk := hm.inj k k' l l' b h1 h2 hb hb'
        subst hkk
        obtain ⟨hj, hj1⟩ := List.getElem?_eq_some_iff.1 hk
        obtain ⟨hj', hj1'⟩ := List.getElem?_eq_some_iff.1 hk'
        exact nodup_get hnd hk hk'
      · obtain ⟨k, l, hk, h1, h2⟩ := hown b hb
        rw [hZ'] at hz
        rcases hz with hz | ⟨k', l', hk', _, h1', h2'⟩
        · exact hm.apart b ⟨k, l, h1, h2⟩ hz
        · exact hk' (hm.inj k k' l l' b h1 h1' h2 h2' ▸ hk)
      · rw [hZ'] at hz
        rcases hz with hz | ⟨k', l', hk', _, h1', h2'⟩
        · exact hm.old b hz
        · exact hm.lt ⟨k', l', h1', h2'⟩
    have hargs : SV.RL w (βc.away Z') βc (SV.ren.renL (posIn ks 0) as) vs := by
      rw [has]
      unfold callArgs
      · refine pureSome_R hm (lent := lent) hst (fun b hb => ?_) hρ _ args 0 vs (fun k hk => by rw [hlent]; unfold callLent; exact hk) hx
        rcases hb with hb | hb
        · obtain ⟨k, l, hk, h1, h2⟩ := hown b hb
          refine .inl ⟨k, l, ?_, h2⟩
          simp only [Loc.freezeL]
          rw [if_neg (fun hl => hdis k hl hk)]
          exact h1
        · rw [hZ'] at hb
          rcases hb with hb | ⟨k, l, hk, hkl, h1, h2⟩
          · exact .inr hb
          · refine .inl ⟨k, l, ?_, h2⟩
            simp only [Loc.freezeL]
            rw [if_neg hkl]
            exact h1
    refine (hok w Z' βc vs hsub hargs).mono ?_
    rintro u w' ⟨βc', hstep, hm', hv⟩
    obtain ⟨mF, hmF⟩ : ∃ mF, mF = fillMem (subMem m (posIn ks 0) ks 0) m' := ⟨_, rfl⟩
    have hndF : (names m').Nodup → ∀ q, mF.get q = ((subMem m (posIn ks 0) ks 0).sets m').get q := by
      intro hn q
      rw [hmF]
      exact fill_get hn q
    unfold callBack at hback
    split at hback
    · rename_i hbc
      cases hback
      simp only [Bool.and_eq_true] at hbc
      obtain ⟨hnb, hfresh⟩ := hbc
      rw [← hmF] at hnb ⊢
      have hnb := distinct_nodup hnb
      have hmF' : MR w' Z' βc' mF := by
        have hn' : (names m').Nodup := back_nodup (d := d) (ks := ks) (m := m') (by
          rw [hmF, fillMem, back_append, names_append] at hnb
          exact (List.nodup_append.1 hnb).2.1)
        have e := hndF hn'
        exact ⟨fun k o ho => hm'.obs k o (e k ▸ ho), fun k l hl => by rw [e]; exact hm'.dom k l hl, hm'.inj, hm'.apart, hm'.old⟩
      have hsubs : ∀ k, k ∈ ks → k ∈ names (backMem ks d mF) := by
        intro k hk
        obtain ⟨j, hj⟩ := List.getElem?_of_mem hk
        obtain ⟨o, ho⟩ : ∃ o, m.get k = some o := by
          have := List.all_eq_true.1 hclosed k hk
          cases hg : m.get k with
          | none => rw [hg] at this; cases this
          | some o => exact ⟨o, rfl⟩
        have hgj : (subMem m (posIn ks 0) ks 0).get j = some (o.ren (posIn ks 0)) := by rw [hget, hj]; simp [ho]
        obtain ⟨o', ho'⟩ := fill_names (m := m') (get_mem hgj)
        refine mem_names.2 ⟨_, mem_back.2 ⟨j, o', by rw [hmF]; exact ho', (backName_lt hj).symm, rfl⟩⟩
      have hfresh : ∀ k, k ∈ names (backMem ks d mF) → k ∉ ks → m.get k = none := by
        intro k hk hk'
        obtain ⟨o, ho⟩ := mem_names.1 hk
        obtain ⟨j, o0, hj, rfl, rfl⟩ := mem_back.1 ho
        rw [hmF] at hj
        rcases List.mem_append.1 hj with hj | hj
        · obtain ⟨k2, hk2⟩ := subMem_names (List.mem_filter.1 hj).1
          rw [Nat.sub_zero] at hk2
          exact (hk' (by rw [backName_lt hk2]; exact List.mem_of_getElem? hk2)).elim
        · have := List.all_eq_true.1 hfresh _ (List.mem_filter.2 ⟨mem_names.2 ⟨_, mem_back.2 ⟨j, o0, hj, rfl, rfl⟩⟩, by simpa using hk'⟩)
          simpa using this
      obtain ⟨ice, hice⟩ : ∃ b, b = (v.hasPs || mF.any fun x => x.2.hasPs) := ⟨_, rfl⟩
      rw [← hice]
      suffices hsuf : PostE Z w β m ⟨v.ren fun q => some (backName ks d q), (if ice then freeze m lent else []) ++ backMem ks d mF, []⟩ u w' by
        obtain ⟨β', a1, a2, a3⟩ := hsuf
        refine ⟨β', a1, ⟨fun k o ho => a2.obs k o ?_, fun k l hl => ?_, a2.inj, a2.apart, a2.old⟩, a3⟩
        · rw [back_fill hclosed hdis hget hmF hnb]; exact ho
        · obtain ⟨o, ho⟩ := a2.dom k l hl
          exact ⟨o, by rw [← back_fill hclosed hdis hget hmF hnb]; exact ho⟩
      obtain ⟨β1, hβ1⟩ : ∃ β1 : Loc, β1 = if ice then β.freezeL lent else β := ⟨_, rfl⟩
      have hm1 : MR w Z β1 (m.sets (if ice then freeze m lent else [])) := by
        rw [hβ1]
        cases ice
        · exact hm
        · exact freeze_MR hm lent
      have hs1 : Step w w β β1 := by
        rw [hβ1]
        cases ice
        · exact Step.refl w β
        · exact freeze_step lent
      have hβ1s : ∀ k, k ∉ lent → β1 k = β k := by
        intro k hk
        rw [hβ1]
        cases ice
        · rfl
        · simp [Loc.freezeL, hk]
      have hβ1o : ∀ k l b, β1 k = some l → l.own = some b → β k = some l := by
        intro k l b hl hb
        rw [hβ1] at hl
        cases ice
        · exact hl
        · simp only [if_true, Loc.freezeL] at hl
          split at hl
          · obtain ⟨l0, h0, rfl⟩ := Option.map_eq_some_iff.1 hl
            rw [(LK.own_frz hb).2]
            exact h0
          · exact hl
      have hice0 : ice = true → ∀ k l b, k ∈ lent → β1 k = some l → l.own = some b → False := by
        intro hi k l b hk hl hb
        rw [hβ1, hi] at hl
        simp only [if_true, Loc.freezeL, if_pos hk] at hl
        obtain ⟨l0, h0, rfl⟩ := Option.map_eq_some_iff.1 hl
        obtain ⟨e, r, xs, hg⟩ := hrow k hk
        obtain ⟨l1, h1, hob⟩ := hm.obs k _ hg
        rw [h0] at h1
        cases h1
        cases l0 with
        | row => cases hb
        | _ => exact hob.elim
      obtain ⟨β', hβ'⟩ : ∃ β' : Loc, β' = fun q => match backKey ks d mF q with | some j => βc' j | none => β1 q := ⟨_, rfl⟩
      have hb'in : ∀ j o, (j, o) ∈ mF → β' (backName ks d j) = βc' j := by
        intro j o hj
        rw [hβ']
        simp only [backKey_mem hnb hj]
      have hb'out : ∀ q, q ∉ names (backMem ks d mF) → β' q = β1 q := by
        intro q hq
        rw [hβ']
        simp only [backKey_none.2 hq]
      have hb'cases : ∀ q l, β' q = some l → (∃ j o, (j, o) ∈ mF ∧ q = backName ks d j ∧ βc' j = some l) ∨ (q ∉ names (backMem ks d mF) ∧ β1 q = some l) := by
        intro q l hl
        rw [hβ'] at hl
        dsimp only at hl
        split at hl
        · rename_i j hj
          obtain ⟨h1, o, h2⟩ := backKey_some hj
          exact .inl ⟨j, o, h2, h1, hl⟩
        · rename_i hj
          exact .inr ⟨backKey_none.1 hj, hl⟩
      have hdom' : ∀ j l, βc' j = some l → ∃ o, (j, o) ∈ mF := by
        intro j l hl
        obtain ⟨o, ho⟩ := hmF'.dom j l hl
        exact ⟨o, get_mem ho⟩
      have hρ' : ∀ k l j, βc' k = some l → (fun q => some (backName ks d q)) k = some j → β' j = some l := by
        intro k l j hl hj
        cases hj
        obtain ⟨o, ho⟩ := hdom' k l hl
        rw [hb'in k o ho, hl]
      -- what the frame owns and did not hand over stands apart
      have hkept : ∀ q l b, q ∉ ks → β1 q = some l → l.own = some b → q ∉ lent → Z' b := by
        intro q l b hq hl hb hql
        rw [hZ']
        exact .inr ⟨q, l, hq, hql, hβ1o q l b hl hb, hb⟩
      have hs2 : Step w w' β1 β' := by
        refine ⟨hstep.os, hstep.tape, hstep.output, hstep.size, fun b hb ho => hstep.block b hb fun hc => ?_, fun b hb => ?_, fun q l hl => ?_⟩
        · obtain ⟨k, l, hk, h1, h2⟩ := hown b hc
          exact ho ⟨k, l, by rw [hβ1s k (fun hl => hdis k hl hk)]; exact h1, h2⟩
        · obtain ⟨q, l, hl, hb⟩ := hb
          rcases hb'cases q l hl with ⟨j, o, hj, rfl, hl'⟩ | ⟨hq, hl'⟩
          · rcases hstep.own b ⟨j, l, hl', hb⟩ with hc | hc
            · obtain ⟨k, l, hk, h1, h2⟩ := hown b hc
              exact .inl ⟨k, l, by rw [hβ1s k (fun hl => hdis k hl hk)]; exact h1, h2⟩
            · exact .inr hc
          · exact .inl ⟨q, l, hl', hb⟩
        · by_cases hq : q ∈ names (backMem ks d mF)
          · by_cases hqk : q ∈ ks
            · obtain ⟨j, hj⟩ := List.getElem?_of_mem hqk
              have hlq : β q = some l := by rw [← hβ1s q (fun hl => hdis q hl hqk)]; exact hl
              obtain ⟨l', hl', hle⟩ := hstep.le j l (by rw [hβj j q hj]; exact hlq)
              obtain ⟨o, ho⟩ := hdom' j l' hl'
              refine ⟨l', ?_, hle⟩
              rw [← backName_lt (d := d) hj, hb'in j o ho]
              exact hl'
            · have h0 := hm.none (hfresh q hq hqk)
              exfalso
              have hql : q ∉ lent := by
                intro hql
                obtain ⟨e, r, xs, hg⟩ := hrow q hql
                rw [hfresh q hq hqk] at hg
                cases hg
              rw [hβ1s q hql, h0] at hl
              cases hl
          · exact ⟨l, by rw [hb'out q hq]; exact hl, .refl l⟩
      have hobs' : ∀ j o l, (j, o) ∈ mF → mF.get j = some o → βc' j = some l → ObR w' (β'.away Z) β' l (o.ren fun q => some (backName ks d q)) := by
        intro j o l hj hg hl
        obtain ⟨l', hl', hob⟩ := hmF'.obs j o hg
        rw [hl] at hl'
        cases hl'
        cases hib : ice with
        | false =>
          rw [hib] at hice
          have := (Bool.or_eq_false_iff.1 hice.symm).2
          rw [List.any_eq_false] at this
          exact hob.ren' hρ' (by simpa using this _ hj)
        | true =>
          refine hob.ren ⟨Nat.le_refl _, fun b _ hb => ⟨rfl, ?_⟩⟩ hρ'
          rintro (⟨q, l1, hq, ho⟩ | hz)
          · rcases hb'cases q l1 hq with ⟨j', o', hj', rfl, hl1⟩ | ⟨hqn, hl1⟩
            · exact hb (.inl ⟨j', l1, hl1, ho⟩)
            · exact hb (.inr (hkept q l1 b (fun hqk => hqn (hsubs q hqk)) hl1 ho fun hql => hice0 hib q l1 b hql hl1 ho))
          · exact hb (.inr (by rw [hZ']; exact .inl hz))
      have hmn : (names mF).Nodup := by
        have aux : ∀ {m'' : Mem}, (names (backMem ks d m'')).Nodup → (names m'').Nodup := by
          intro m''
          induction m'' with
          | nil => intro _; exact List.nodup_nil
          | cons x m'' ih =>
            obtain ⟨j, o⟩ := x
            intro hh
            simp only [backMem, names, List.nodup_cons] at hh ⊢
            refine ⟨fun hj => hh.1 ?_, ih hh.2⟩
            obtain ⟨o', ho'⟩ := mem_names.1 hj
            exact mem_names.2 ⟨_, mem_back.2 ⟨j, o', ho', rfl, rfl⟩⟩
        exact aux hnb
      refine ⟨β', hs1.trans hs2, ?_, ?_⟩
      · dsimp only
        rw [Mem.sets_append]
        refine hm1.update (fun q => q ∈ names (backMem ks d mF)) hs2 (fun q hq => ⟨hb'out q hq, Mem.get_sets _ _ _ fun o ho => hq (mem_names.2 ⟨o, ho⟩)⟩) (fun q l b hq hl hb => ?_) (fun q o hq hg => ?_) (fun q l hq hl => ?_) (fun q l b hq hl hb => ?_)
        · refine hstep.block b (hm.lt ⟨q, l, hβ1o q l b hl hb, hb⟩) fun hc => ?_
          obtain ⟨k, l', hk, h1, h2⟩ := hown b hc
          exact hq (hm.inj k q l' l b h1 (hβ1o q l b hl hb) h2 hb ▸ hsubs k hk)
        · obtain ⟨o', ho'⟩ := mem_names.1 hq
          rw [get_sets_mem hnb ho'] at hg
          cases hg
          obtain ⟨j, o0, hj, rfl, rfl⟩ := mem_back.1 ho'
          have hgj := get_of_mem hmn hj
          obtain ⟨l, hl, _⟩ := hmF'.obs j o0 hgj
          exact ⟨l, by rw [hb'in j o0 hj, hl], hobs' j o0 l hj hgj hl⟩
        · obtain ⟨o', ho'⟩ := mem_names.1 hq
          exact ⟨o', get_sets_mem hnb ho'⟩
        · rcases hb'cases q l hl with ⟨j, o, hj, rfl, hl'⟩ | ⟨hqn, _⟩
          · have hz := hmF'.apart b ⟨j, l, hl', hb⟩
            refine ⟨fun h0 => hz (by rw [hZ']; exact .inl h0), fun k' l' hk' hb' => ?_⟩
            rcases hb'cases k' l' hk' with ⟨j', o', hj', rfl, hl2⟩ | ⟨hqn, hl2⟩
            · rw [hmF'.inj j' j l' l b hl2 hl' hb' hb]
            · exfalso
              by_cases hkl : k' ∈ lent
              · -- a lent row is not handed over
                cases hib : ice with
                | true => exact hice0 hib k' l' b hkl hl2 hb'
                | false =>
                  rcases hstep.own b ⟨j, l, hl', hb⟩ with hc | hc
                  · obtain ⟨k, l3, hk, h1, h2⟩ := hown b hc
                    exact hdis k' hkl (hm.inj k k' l3 l' b h1 (hβ1o k' l' b hl2 hb') h2 hb' ▸ hk)
                  · have := hm.lt ⟨k', l', hβ1o k' l' b hl2 hb', hb'⟩
                    omega
              · exact hz (hkept k' l' b (fun hqk => hqn (hsubs k' hqk)) hl2 hb' hkl)
          · exact absurd hq hqn
      · dsimp only
        cases hib : ice with
        | false =>
          rw [hib] at hice
          exact SV.ren_R' hρ' v u (Bool.or_eq_false_iff.1 hice.symm).1 hv
        | true =>
          refine SV.ren_R ⟨Nat.le_refl _, fun b _ hb => ⟨rfl, ?_⟩⟩ hρ' v u hv
          rintro (⟨q, l1, hq, ho⟩ | hz)
          · rcases hb'cases q l1 hq with ⟨j', o', hj', rfl, hl1⟩ | ⟨hqn, hl1⟩
            · exact hb (.inl ⟨j', l1, hl1, ho⟩)
            · exact hb (.inr (hkept q l1 b (fun hqk => hqn (hsubs q hqk)) hl1 ho fun hql => hice0 hib q l1 b hql hl1 ho))
          · exact hb (.inr (by rw [hZ']; exact .inl hz))
    · cases hback
  · cases h
end

theorem nil1_sound {m : Mem} {w : World} {Z : Nat → Prop} {β : Loc} (hm : MR w Z β m) (key : Nat) (args : List SV) (h : Nat × Nat × TypeId × Row) : ∃ β', Step w w β β' ∧ MR w Z β' (m.sets (nil1 key args h m)) := by
  have hno : ∃ β', Step w w β β' ∧ MR w Z β' (m.sets []) := ⟨β, Step.refl w β, hm⟩
  unfold nil1
  split
  · rename_i k i fo ha
    split
    · rename_i cs hk
      split
      · rename_i hnil
        split
        · rename_i hc
          obtain ⟨hkey, h0⟩ := hc
          have hkey : m.get key = none := by simpa using hkey
          have hbk := hm.none hkey
          have hkk : k ≠ key := by rintro rfl; rw [hkey] at hk; cases hk
          obtain ⟨β1, hβ1⟩ : ∃ β1 : Loc, β1 = β.put key (.row none 0 0 h.2.2.2.size h.2.2.1) := ⟨_, rfl⟩
          have hs : Step w w β β1 := by
            subst hβ1
            exact ⟨rfl, rfl, rfl, Nat.le_refl _, fun _ _ _ => rfl, fun b hb => by
              obtain ⟨q, l, hq, ho⟩ := hb
              simp only [Loc.put] at hq
              split at hq
              · cases hq; cases ho
              · exact .inl ⟨q, l, hq, ho⟩, fun q l hq => ⟨l, by
              simp only [Loc.put]
              rw [if_neg (fun e => by rw [e, hbk] at hq; cases hq)]
              exact hq, .refl l⟩⟩
          have hb1 : β1 key = some (.row none 0 0 h.2.2.2.size h.2.2.1) := by subst hβ1; simp [Loc.put]
          have hb2 : ∀ q, q ≠ key → β1 q = β q := by intro q hq; subst hβ1; simp [Loc.put, hq]
          obtain ⟨l0, hl0, hob0⟩ := hm.obs k _ hk
          refine ⟨β1, hs, ?_⟩
          have hg : ∀ q, (m.sets [(k, Ob.cells (cs.set (i + fo + h.2.1) (.slw key))), (key, Ob.row h.2.2.1 h.2.2.2 [])]).get q = if q = key then some (.row h.2.2.1 h.2.2.2 []) else if q = k then some (.cells (cs.set (i + fo + h.2.1) (.slw key))) else m.get q := by
            intro q
            simp only [Mem.sets, Mem.get_set]
          refine hm.update (fun q => q = k ∨ q = key) hs (fun q hq => ?_) (fun _ _ _ _ _ _ => rfl) (fun q o hq ho => ?_) (fun q l hq hl => ?_) (fun q l b hq hl hb => ?_)
          · have h1 : q ≠ k := fun e => hq (.inl e)
            have h2 : q ≠ key := fun e => hq (.inr e)
            exact ⟨hb2 q h2, by rw [hg, if_neg h2, if_neg h1]⟩
          · rw [hg] at ho
            rcases hq with rfl | rfl
            · rw [if_neg hkk, if_pos rfl] at ho
              cases ho
              refine ⟨l0, by rw [hb2 _ hkk]; exact hl0, ?_⟩
              cases l0 with
              | box b =>
                obtain ⟨vs, t, hh, hrl, h1⟩ := hob0
                refine ⟨vs, t, hh, ?_, h1⟩
                have hrl1 := SV.RL_step hs.stays hs.le _ _ hrl
                refine SV.RL_of_get _ _ (by rw [SV.RL_len _ _ hrl]; simp) fun j x v hx hv => ?_
                rw [List.getElem?_set] at hx
                split at hx
                · rename_i hj
                  split at hx
                  · rename_i hlt
                    cases hx
                    subst hj
                    obtain ⟨v', hv', hr⟩ := SV.RL_get _ _ hrl (i + fo + h.2.1) .nils (by
                      rw [List.getD_eq_getElem?_getD] at hnil
                      cases hq : cs[i + fo + h.2.1]? with
                      | none => rw [hq] at hnil; cases hnil
                      | some y => rw [hq] at hnil; simp at hnil; rw [hnil])
                    rw [hv] at hv'
                    cases hv'
                    simp only [SV.R] at hr ⊢
                    subst hr
                    exact ⟨_, hb1, none, 0, rfl, Nat.le_refl _, Nat.le_refl _, rfl, fun _ => rfl⟩
                  · cases hx
                · obtain ⟨v', hv', hr⟩ := SV.RL_get _ _ hrl1 j x hx
                  rw [hv] at hv'
                  cases hv'
                  exact hr
              | _ => exact hob0.elim
            · rw [if_pos rfl] at ho
              cases ho
              exact ⟨_, hb1, rfl, rfl, h0, rfl, [], ⟨by simp, .inl ⟨rfl, rfl⟩⟩, fun j hj => absurd hj (by simp)⟩
          · rcases hq with rfl | rfl
            · exact ⟨_, by rw [hg, if_neg hkk, if_pos rfl]⟩
            · exact ⟨_, by rw [hg, if_pos rfl]⟩
          · rcases hq with rfl | rfl
            · rw [hb2 _ hkk] at hl
              refine ⟨hm.apart b ⟨_, l, hl, hb⟩, fun k' l' hk' hb' => ?_⟩
              by_cases hkey' : k' = key
              · subst hkey'
                rw [hb1] at hk'
                cases hk'
                cases hb'
              · rw [hb2 _ hkey'] at hk'
                exact hm.inj _ _ _ _ _ hk' hl hb' hb
            · rw [hb1] at hl
              cases hl
              cases hb
        · exact hno
      · exact hno
    · exact hno
  · exact hno

theorem nilsUpd_sound {w : World} {Z : Nat → Prop} (d : Nat) (args : List SV) : ∀ (l : List (Nat × Nat × TypeId × Row)) (n : Nat) {m : Mem} {β : Loc}, MR w Z β m → ∃ β', Step w w β β' ∧ MR w Z β' (m.sets (nilsUpd d args l n m))
  | [], n, m, β, hm => ⟨β, Step.refl w β, hm⟩
  | h :: l, n, m, β, hm => by
    obtain ⟨β1, h1, hm1⟩ := nil1_sound hm (site d + 24 + n) args h
    obtain ⟨β2, h2, hm2⟩ := nilsUpd_sound d args l (n + 1) hm1
    exact ⟨β2, h1.trans h2, by simp only [nilsUpd, Mem.sets_append]; exact hm2⟩

theorem callx2_sound {P : Program} {w : World} {Z : Nat → Prop} {β : Loc} {m : Mem} {cb : CB} (hn : cb.Nat) (hcb : cb.CallsOK P) {byRef : FuncId → CC} {d : Nat} {f : FuncId} {args : List SV} {vs : List Value} {e : Eff} (hm : MR w Z β m)
    (h : callx2 cb byRef d f args m some = some e) (hx : SV.RL w (β.away Z) β args vs) : CallRun P f vs.toArray w (PostE Z w β m e) := by
  unfold callx2 at h
  rw [callx_nat hn] at h
  obtain ⟨e1, h1, h2⟩ := Option.bind_eq_some_iff.1 h
  cases h2
  obtain ⟨β1, hs, hm1⟩ := nilsUpd_sound d args (byRef f).nils 0 hm
  refine (callx_sound hn hcb hm1 h1 (SV.RL_step hs.stays hs.le _ _ hx)).mono fun u w' hp => ?_
  obtain ⟨β', h3, h4, h5⟩ := hp
  exact ⟨β', hs.trans h3, by rw [Mem.sets_append]; exact h4, h5⟩
end Go.Proofs.Ytgfanlafbjbkaaa.S2
