/-
  S2, seventeenth part: a call is sound if what is said of its callee is.
-/
import Derived.Test.YtlmiaagcnhgfmaaS2p
set_option linter.unusedVariables false
set_option linter.unusedSimpArgs false
namespace Go.Proofs.Ytlmiaagcnhgfmaa.S2
open Go

theorem get_mem {m : Mem} : ∀ {q : Nat} {o : Ob}, m.get q = some o → (q, o) ∈ m := by
  induction m with
  | nil => intro q o h; cases h
  | cons x m ih =>
    obtain ⟨k, o'⟩ := x
    intro q o h
    simp only [Mem.get] at h
    split at h
    · rename_i hq
      cases h
      subst hq
      exact List.mem_cons_self
    · exact List.mem_cons_of_mem _ (ih h)

theorem mem_names {m : Mem} {q : Nat} : q ∈ names m ↔ ∃ o, (q, o) ∈ m := by
  induction m with
  | nil => simp [names]
  | cons x m ih =>
    obtain ⟨k, o⟩ := x
    simp only [names, List.mem_cons, ih]
    constructor
    · rintro (rfl | ⟨o', h⟩)
      · exact ⟨o, .inl rfl⟩
      · exact ⟨o', .inr h⟩
    · rintro ⟨o', h | h⟩
      · cases h; exact .inl rfl
      · exact .inr ⟨o', h⟩

theorem get_of_mem {m : Mem} : ∀ {q : Nat} {o : Ob}, (names m).Nodup → (q, o) ∈ m → m.get q = some o := by
  induction m with
  | nil => intro q o _ h; cases h
  | cons x m ih =>
    obtain ⟨k, o'⟩ := x
    intro q o hn h
    simp only [names, List.nodup_cons] at hn
    simp only [Mem.get]
    rcases List.mem_cons.1 h with h | h
    · cases h; rw [if_pos rfl]
    · have hne : q ≠ k := fun e => hn.1 (mem_names.2 ⟨o, e ▸ h⟩)
      rw [if_neg hne]
      exact ih hn.2 h

theorem get_sets_mem : ∀ {l : List (Nat × Ob)} {m : Mem} {q : Nat} {o : Ob}, (names l).Nodup → (q, o) ∈ l → (m.sets l).get q = some o
  | [], m, q, o, _, h => by cases h
  | (k, o') :: l, m, q, o, hn, h => by
    simp only [names, List.nodup_cons] at hn
    simp only [Mem.sets]
    rcases List.mem_cons.1 h with h | h
    · cases h
      rw [Mem.get_sets l _ _ (fun o' ho' => hn.1 (mem_names.2 ⟨o', ho'⟩)), Mem.get_set, if_pos rfl]
    · exact get_sets_mem hn.2 h

theorem mem_back {ks : List Nat} {d : Nat} : ∀ {m : Mem} {q : Nat} {o : Ob}, (q, o) ∈ backMem ks d m ↔ ∃ j o0, (j, o0) ∈ m ∧ q = backName ks d j ∧ o = o0.ren fun q => some (backName ks d q)
  | [], q, o => by simp [backMem]
  | (j, o0) :: m, q, o => by
    simp only [backMem, List.mem_cons, mem_back]
    constructor
    · rintro (h | ⟨j', o', h1, h2, h3⟩)
      · cases h; exact ⟨j, o0, .inl rfl, rfl, rfl⟩
      · exact ⟨j', o', .inr h1, h2, h3⟩
    · rintro ⟨j', o', h | h, h2, h3⟩
      · cases h; exact .inl (by rw [h2, h3])
      · exact .inr ⟨j', o', h, h2, h3⟩

theorem back_inj {ks : List Nat} {d : Nat} : ∀ {m : Mem}, (names (backMem ks d m)).Nodup → ∀ {j j' : Nat} {o o' : Ob}, (j, o) ∈ m → (j', o') ∈ m → backName ks d j = backName ks d j' → j = j' ∧ o = o'
  | [], _, j, j', o, o', h, _, _ => by cases h
  | (i, x) :: m, hn, j, j', o, o', h, h', e => by
    simp only [backMem, names, List.nodup_cons] at hn
    rcases List.mem_cons.1 h with h | h <;> rcases List.mem_cons.1 h' with h' | h'
    · cases h; cases h'; exact ⟨rfl, rfl⟩
    · cases h
      exact absurd (mem_names.2 ⟨_, mem_back.2 ⟨j', o', h', e, rfl⟩⟩) hn.1
    · cases h'
      exact absurd (mem_names.2 ⟨_, mem_back.2 ⟨j, o, h, e.symm, rfl⟩⟩) hn.1
    · exact back_inj hn.2 h h' e

def backKey (ks : List Nat) (d : Nat) : Mem → Nat → Option Nat
  | [], _ => none
  | (j, _) :: l, q => if q = backName ks d j then some j else backKey ks d l q

theorem backKey_some {ks : List Nat} {d : Nat} : ∀ {m : Mem} {q j : Nat}, backKey ks d m q = some j → q = backName ks d j ∧ ∃ o, (j, o) ∈ m
  | [], q, j, h => by cases h
  | (i, x) :: m, q, j, h => by
    simp only [backKey] at h
    split at h
    · rename_i hq
      cases h
      exact ⟨hq, x, List.mem_cons_self⟩
    · obtain ⟨h1, o, h2⟩ := backKey_some h
      exact ⟨h1, o, List.mem_cons_of_mem _ h2⟩

theorem backKey_none {ks : List Nat} {d : Nat} : ∀ {m : Mem} {q : Nat}, backKey ks d m q = none ↔ q ∉ names (backMem ks d m)
  | [], q => by simp [backKey, backMem, names]
  | (i, x) :: m, q => by
    simp only [backKey, backMem, names, List.mem_cons, not_or]
    split
    · rename_i hq
      simp [hq]
    · rename_i hq
      rw [backKey_none]
      simp [hq]

theorem backKey_mem {ks : List Nat} {d : Nat} {m : Mem} (hn : (names (backMem ks d m)).Nodup) {j : Nat} {o : Ob} (h : (j, o) ∈ m) : backKey ks d m (backName ks d j) = some j := by
  cases hb : backKey ks d m (backName ks d j) with
  | none => exact absurd (mem_names.2 ⟨_, mem_back.2 ⟨j, o, h, rfl, rfl⟩⟩) (backKey_none.1 hb)
  | some i =>
    obtain ⟨h1, o', h2⟩ := backKey_some hb
    rw [(back_inj hn h h2 h1).1]

theorem backName_lt {ks : List Nat} {d j k : Nat} (h : ks[j]? = some k) : backName ks d j = k := by
  have := (List.getElem?_eq_some_iff.1 h).1
  simp only [backName, if_pos this, List.getD, h, Option.getD]

theorem nodup_get : ∀ {l : List Nat} {i j k : Nat}, l.Nodup → l[i]? = some k → l[j]? = some k → i = j
  | [], i, j, k, _, h, _ => by simp at h
  | x :: l, i, j, k, hn, h, h' => by
    rw [List.nodup_cons] at hn
    cases i with
    | zero =>
      cases j with
      | zero => rfl
      | succ j => simp at h h'; subst h; exact absurd (List.mem_of_getElem? h') hn.1
    | succ i =>
      cases j with
      | zero => simp at h h'; subst h'; exact absurd (List.mem_of_getElem? h) hn.1
      | succ j => exact congrArg Nat.succ (nodup_get (l := l) (k := k) hn.2 (by simpa using h) (by simpa using h'))

mutual
theorem lent_row {m : Mem} : (x : SV) → ∀ k, k ∈ x.lent m → ∃ e r xs, m.get k = some (.row e r xs)
  | .sl k off len, q, h => by
    simp only [SV.lent] at h
    split at h
    · rename_i e r xs hg
      simp only [List.mem_singleton] at h
      subst h
      exact ⟨e, r, xs, hg⟩
    · cases h
  | .slw k, q, h => by
    simp only [SV.lent] at h
    split at h
    · rename_i e r xs hg
      simp only [List.mem_singleton] at h
      subst h
      exact ⟨e, r, xs, hg⟩
    · cases h
  | .agg cs, q, h => lentL_row cs q (by simpa [SV.lent] using h)
  | .dead, _, h => by cases h
  | .int _ _, _, h => by cases h
  | .bool _, _, h => by cases h
  | .str _, _, h => by cases h
  | .ps _ _ _, _, h => by cases h
  | .nils, _, h => by cases h
  | .pe, _, h => by cases h
  | .ptr _ _ _, _, h => by cases h
  | .pptr _ _ _ _ _, _, h => by cases h
  | .nilp, _, h => by cases h
  | .tup _, _, h => by cases h
  | .fn _ _, _, h => by cases h
  | .nilf, _, h => by cases h
  | .nili, _, h => by cases h
  | .nilm, _, h => by cases h
theorem lentL_row {m : Mem} : (l : List SV) → ∀ k, k ∈ SV.lent.lentL m l → ∃ e r xs, m.get k = some (.row e r xs)
  | [], q, h => by cases h
  | x :: l, q, h => by
    simp only [SV.lent.lentL, List.mem_append] at h
    exact h.elim (lent_row x q) (lentL_row l q)
end

/-- What a table of callees says is so. -/
structure CB.CallsOK (P : Program) (cb : CB) : Prop where
  call : ∀ {f : FuncId} {args : List SV} {m : Mem} {v : SV} {m' : Mem}, cb.call f args m (fun v m' => some (v, m')) = some (v, m') → CallOK P f args m v m'

section
variable {P : Program} {w : World} {Z : Nat → Prop} {β : Loc} {m : Mem}

theorem LK.own_frz {l : LK} {b : Nat} (h : l.frz.own = some b) : l.own = some b ∧ l.frz = l := by
  cases l <;> first | exact ⟨h, rfl⟩ | cases h

theorem callx_sound {cb : CB} (hn : cb.Nat) (hcb : cb.CallsOK P) {byRef : FuncId → Bool} {d : Nat} {f : FuncId} {args : List SV} {vs : List Value} {e : Eff} (hm : MR w Z β m)
    (h : callx cb byRef d f args m some = some e) (hx : SV.RL w (β.away Z) β args vs) : CallRun P f vs.toArray w (PostE Z w β m e) := by
  unfold callx callWith at h
  obtain ⟨as, has⟩ : ∃ as, as = callArgs byRef f args m := ⟨_, rfl⟩
  obtain ⟨lent, hlent⟩ : ∃ l, l = callLent byRef f args m := ⟨_, rfl⟩
  obtain ⟨ks, hks⟩ : ∃ l, l = callKeys as m := ⟨_, rfl⟩
  rw [← has, ← hlent, ← hks] at h
  split at h
  · rename_i hc
    simp only [Bool.and_eq_true] at hc
    obtain ⟨⟨hclosed, hdisj⟩, hdist⟩ := hc
    have hdis : ∀ k, k ∈ lent → k ∉ ks := by
      intro k hk hk'
      have := List.all_eq_true.1 hdisj k hk
      simp [hk'] at this
    have hnd : ks.Nodup := distinct_nodup hdist
    rw [hn.call] at h
    obtain ⟨⟨v, m'⟩, hcall, hback⟩ := Option.bind_eq_some_iff.1 h
    have hok := hcb.call hcall
    have hback : callBack d args lent ks m v m' = some e := by
      revert hback
      dsimp only
      cases callBack d args lent ks m v m' <;> simp
    have hget : ∀ j, (subMem m (posIn ks 0) ks 0).get j = match ks[j]? with | some k => (m.get k).map (Ob.ren (posIn ks 0)) | none => none := by
      intro j
      rw [get_subMem, if_pos (Nat.zero_le _), Nat.sub_zero]
      cases ks[j]? <;> rfl
    obtain ⟨βc, hβc⟩ : ∃ βc : Loc, βc = fun j => match ks[j]? with | some k => β k | none => none := ⟨_, rfl⟩
    obtain ⟨Z', hZ'⟩ : ∃ Z' : Nat → Prop, Z' = fun b => Z b ∨ ∃ k l, k ∉ ks ∧ k ∉ lent ∧ β k = some l ∧ l.own = some b := ⟨_, rfl⟩
    have hβj : ∀ j k, ks[j]? = some k → βc j = β k := by intro j k hk; rw [hβc]; simp only [hk]
    have hβs : ∀ j l, βc j = some l → ∃ k, ks[j]? = some k ∧ β k = some l := by
      intro j l hl
      rw [hβc] at hl
      dsimp only at hl
      split at hl
      · rename_i k hk; exact ⟨k, hk, hl⟩
      · cases hl
    have hown : ∀ b, βc.owned b → ∃ k l, k ∈ ks ∧ β k = some l ∧ l.own = some b := by
      rintro b ⟨j, l, hl, hb⟩
      obtain ⟨k, hk, hl'⟩ := hβs j l hl
      exact ⟨k, l, List.mem_of_getElem? hk, hl', hb⟩
    have hρ : ∀ k l j, β k = some l → posIn ks 0 k = some j → βc j = some l := by
      intro k l j hl hj
      obtain ⟨_, h2⟩ := posIn_some hj
      rw [Nat.sub_zero] at h2
      rw [hβj j k h2, hl]
    have hrow : ∀ k, k ∈ lent → ∃ e r xs, m.get k = some (.row e r xs) := by
      intro k hk
      rw [hlent] at hk
      unfold callLent at hk
      split at hk
      · cases hk
      · exact lentL_row args k hk
    have hst : Stays w w (β.away Z) (βc.away Z') := ⟨Nat.le_refl _, fun b _ hb => ⟨rfl, fun h' => hb (by
      rcases h' with h' | h'
      · obtain ⟨k, l, _, h1, h2⟩ := hown b h'
        exact .inl ⟨k, l, h1, h2⟩
      · rw [hZ'] at h'
        rcases h' with h' | ⟨k, l, _, _, h1, h2⟩
        · exact .inr h'
        · exact .inl ⟨k, l, h1, h2⟩)⟩⟩
    have hsub : MR w Z' βc (subMem m (posIn ks 0) ks 0) := by
      refine ⟨fun j o ho => ?_, fun j l hl => ?_, fun j j' l l' b hl hl' hb hb' => ?_, fun b hb hz => ?_, fun b hz => ?_⟩
      · rw [hget] at ho
        split at ho
        · rename_i k hk
          obtain ⟨o0, ho0, rfl⟩ := Option.map_eq_some_iff.1 ho
          obtain ⟨l, hl, hob⟩ := hm.obs k o0 ho0
          exact ⟨l, by rw [hβj j k hk, hl], hob.ren hst hρ⟩
        · cases ho
      · obtain ⟨k, hk, hl'⟩ := hβs j l hl
        obtain ⟨o, ho⟩ := hm.dom k l hl'
        exact ⟨o.ren (posIn ks 0), by rw [hget, hk]; simp [ho]⟩
      · obtain ⟨k, hk, h1⟩ := hβs j l hl
        obtain ⟨k', hk', h2⟩ := hβs j' l' hl'
        have hkk := hm.inj k k' l l' b h1 h2 hb hb'
        subst hkk
        obtain ⟨hj, hj1⟩ := List.getElem?_eq_some_iff.1 hk
        obtain ⟨hj', hj1'⟩ := List.getElem?_eq_some_iff.1 hk'
        exact nodup_get hnd hk hk'
      · obtain ⟨k, l, hk, h1, h2⟩ := hown b hb
        rw [hZ'] at hz
        rcases hz with hz | ⟨k', l', hk', _, h1', h2'⟩
        · exact hm.apart b ⟨k, l, h1, h2⟩ hz
        · exact hk' (hm.inj k k' l l' b h1 h1' h2 h2' ▸ hk)
      · rw [hZ'] at hz
        rcases hz with hz | ⟨k', l', hk', _, h1', h2'⟩
        · exact hm.old b hz
        · exact hm.lt ⟨k', l', h1', h2'⟩
    have hargs : SV.RL w (βc.away Z') βc (SV.ren.renL (posIn ks 0) as) vs := by
      rw [has]
      unfold callArgs
      split
      · exact SV.renL_R hst hρ args vs hx
      · rename_i hbr
        refine SV.pureL_R hm (lent := lent) (fun b hb => ?_) hρ args vs (fun k hk => by rw [hlent]; unfold callLent; rw [if_neg hbr]; exact hk) hx
        rcases hb with hb | hb
        · obtain ⟨k, l, hk, h1, h2⟩ := hown b hb
          refine .inl ⟨k, l, ?_, h2⟩
          simp only [Loc.freezeL]
          rw [if_neg (fun hl => hdis k hl hk)]
          exact h1
        · rw [hZ'] at hb
          rcases hb with hb | ⟨k, l, hk, hkl, h1, h2⟩
          · exact .inr hb
          · refine .inl ⟨k, l, ?_, h2⟩
            simp only [Loc.freezeL]
            rw [if_neg hkl]
            exact h1
    refine (hok w Z' βc vs hsub hargs).mono ?_
    rintro u w' ⟨βc', hstep, hm', hv⟩
    unfold callBack at hback
    split at hback
    · rename_i hbc
      cases hback
      simp only [Bool.and_eq_true] at hbc
      obtain ⟨⟨hnb, hsubs⟩, hfresh⟩ := hbc
      have hnb := distinct_nodup hnb
      have hsubs : ∀ k, k ∈ ks → k ∈ names (backMem ks d m') := by
        intro k hk
        simpa using List.all_eq_true.1 hsubs k hk
      have hfresh : ∀ k, k ∈ names (backMem ks d m') → k ∉ ks → m.get k = none := by
        intro k hk hk'
        have := List.all_eq_true.1 hfresh k (List.mem_filter.2 ⟨hk, by simpa using hk'⟩)
        simpa using this
      obtain ⟨ice, hice⟩ : ∃ b, b = (v.hasPs || m'.any fun x => x.2.hasPs) := ⟨_, rfl⟩
      rw [← hice]
      obtain ⟨β1, hβ1⟩ : ∃ β1 : Loc, β1 = if ice then β.freezeL lent else β := ⟨_, rfl⟩
      have hm1 : MR w Z β1 (m.sets (if ice then freeze m lent else [])) := by
        rw [hβ1]
        cases ice
        · exact hm
        · exact freeze_MR hm lent
      have hs1 : Step w w β β1 := by
        rw [hβ1]
        cases ice
        · exact Step.refl w β
        · exact freeze_step lent
      have hβ1s : ∀ k, k ∉ lent → β1 k = β k := by
        intro k hk
        rw [hβ1]
        cases ice
        · rfl
        · simp [Loc.freezeL, hk]
      have hβ1o : ∀ k l b, β1 k = some l → l.own = some b → β k = some l := by
        intro k l b hl hb
        rw [hβ1] at hl
        cases ice
        · exact hl
        · simp only [if_true, Loc.freezeL] at hl
          split at hl
          · obtain ⟨l0, h0, rfl⟩ := Option.map_eq_some_iff.1 hl
            rw [(LK.own_frz hb).2]
            exact h0
          · exact hl
      have hice0 : ice = true → ∀ k l b, k ∈ lent → β1 k = some l → l.own = some b → False := by
        intro hi k l b hk hl hb
        rw [hβ1, hi] at hl
        simp only [if_true, Loc.freezeL, if_pos hk] at hl
        obtain ⟨l0, h0, rfl⟩ := Option.map_eq_some_iff.1 hl
        obtain ⟨e, r, xs, hg⟩ := hrow k hk
        obtain ⟨l1, h1, hob⟩ := hm.obs k _ hg
        rw [h0] at h1
        cases h1
        cases l0 with
        | row => cases hb
        | _ => exact hob.elim
      obtain ⟨β', hβ'⟩ : ∃ β' : Loc, β' = fun q => match backKey ks d m' q with | some j => βc' j | none => β1 q := ⟨_, rfl⟩
      have hb'in : ∀ j o, (j, o) ∈ m' → β' (backName ks d j) = βc' j := by
        intro j o hj
        rw [hβ']
        simp only [backKey_mem hnb hj]
      have hb'out : ∀ q, q ∉ names (backMem ks d m') → β' q = β1 q := by
        intro q hq
        rw [hβ']
        simp only [backKey_none.2 hq]
      have hb'cases : ∀ q l, β' q = some l → (∃ j o, (j, o) ∈ m' ∧ q = backName ks d j ∧ βc' j = some l) ∨ (q ∉ names (backMem ks d m') ∧ β1 q = some l) := by
        intro q l hl
        rw [hβ'] at hl
        dsimp only at hl
        split at hl
        · rename_i j hj
          obtain ⟨h1, o, h2⟩ := backKey_some hj
          exact .inl ⟨j, o, h2, h1, hl⟩
        · rename_i hj
          exact .inr ⟨backKey_none.1 hj, hl⟩
      have hdom' : ∀ j l, βc' j = some l → ∃ o, (j, o) ∈ m' := by
        intro j l hl
        obtain ⟨o, ho⟩ := hm'.dom j l hl
        exact ⟨o, get_mem ho⟩
      have hρ' : ∀ k l j, βc' k = some l → (fun q => some (backName ks d q)) k = some j → β' j = some l := by
        intro k l j hl hj
        cases hj
        obtain ⟨o, ho⟩ := hdom' k l hl
        rw [hb'in k o ho, hl]
      -- what the frame owns and did not hand over stands apart
      have hkept : ∀ q l b, q ∉ ks → β1 q = some l → l.own = some b → q ∉ lent → Z' b := by
        intro q l b hq hl hb hql
        rw [hZ']
        exact .inr ⟨q, l, hq, hql, hβ1o q l b hl hb, hb⟩
      have hs2 : Step w w' β1 β' := by
        refine ⟨hstep.os, hstep.tape, hstep.output, hstep.size, fun b hb ho => hstep.block b hb fun hc => ?_, fun b hb => ?_, fun q l hl => ?_⟩
        · obtain ⟨k, l, hk, h1, h2⟩ := hown b hc
          exact ho ⟨k, l, by rw [hβ1s k (fun hl => hdis k hl hk)]; exact h1, h2⟩
        · obtain ⟨q, l, hl, hb⟩ := hb
          rcases hb'cases q l hl with ⟨j, o, hj, rfl, hl'⟩ | ⟨hq, hl'⟩
          · rcases hstep.own b ⟨j, l, hl', hb⟩ with hc | hc
            · obtain ⟨k, l, hk, h1, h2⟩ := hown b hc
              exact .inl ⟨k, l, by rw [hβ1s k (fun hl => hdis k hl hk)]; exact h1, h2⟩
            · exact .inr hc
          · exact .inl ⟨q, l, hl', hb⟩
        · by_cases hq : q ∈ names (backMem ks d m')
          · by_cases hqk : q ∈ ks
            · obtain ⟨j, hj⟩ := List.getElem?_of_mem hqk
              have hlq : β q = some l := by rw [← hβ1s q (fun hl => hdis q hl hqk)]; exact hl
              obtain ⟨l', hl', hle⟩ := hstep.le j l (by rw [hβj j q hj]; exact hlq)
              obtain ⟨o, ho⟩ := hdom' j l' hl'
              refine ⟨l', ?_, hle⟩
              rw [← backName_lt (d := d) hj, hb'in j o ho]
              exact hl'
            · have h0 := hm.none (hfresh q hq hqk)
              exfalso
              have hql : q ∉ lent := by
                intro hql
                obtain ⟨e, r, xs, hg⟩ := hrow q hql
                rw [hfresh q hq hqk] at hg
                cases hg
              rw [hβ1s q hql, h0] at hl
              cases hl
          · exact ⟨l, by rw [hb'out q hq]; exact hl, .refl l⟩
      have hobs' : ∀ j o l, (j, o) ∈ m' → m'.get j = some o → βc' j = some l → ObR w' (β'.away Z) β' l (o.ren fun q => some (backName ks d q)) := by
        intro j o l hj hg hl
        obtain ⟨l', hl', hob⟩ := hm'.obs j o hg
        rw [hl] at hl'
        cases hl'
        cases hib : ice with
        | false =>
          rw [hib] at hice
          have := (Bool.or_eq_false_iff.1 hice.symm).2
          rw [List.any_eq_false] at this
          exact hob.ren' hρ' (by simpa using this _ hj)
        | true =>
          refine hob.ren ⟨Nat.le_refl _, fun b _ hb => ⟨rfl, ?_⟩⟩ hρ'
          rintro (⟨q, l1, hq, ho⟩ | hz)
          · rcases hb'cases q l1 hq with ⟨j', o', hj', rfl, hl1⟩ | ⟨hqn, hl1⟩
            · exact hb (.inl ⟨j', l1, hl1, ho⟩)
            · exact hb (.inr (hkept q l1 b (fun hqk => hqn (hsubs q hqk)) hl1 ho fun hql => hice0 hib q l1 b hql hl1 ho))
          · exact hb (.inr (by rw [hZ']; exact .inl hz))
      have hmn : (names m').Nodup := by
        have aux : ∀ {m'' : Mem}, (names (backMem ks d m'')).Nodup → (names m'').Nodup := by
          intro m''
          induction m'' with
          | nil => intro _; exact List.nodup_nil
          | cons x m'' ih =>
            obtain ⟨j, o⟩ := x
            intro hh
            simp only [backMem, names, List.nodup_cons] at hh ⊢
            refine ⟨fun hj => hh.1 ?_, ih hh.2⟩
            obtain ⟨o', ho'⟩ := mem_names.1 hj
            exact mem_names.2 ⟨_, mem_back.2 ⟨j, o', ho', rfl, rfl⟩⟩
        exact aux hnb
      refine ⟨β', hs1.trans hs2, ?_, ?_⟩
      · dsimp only
        rw [Mem.sets_append]
        refine hm1.update (fun q => q ∈ names (backMem ks d m')) hs2 (fun q hq => ⟨hb'out q hq, Mem.get_sets _ _ _ fun o ho => hq (mem_names.2 ⟨o, ho⟩)⟩) (fun q l b hq hl hb => ?_) (fun q o hq hg => ?_) (fun q l hq hl => ?_) (fun q l b hq hl hb => ?_)
        · refine hstep.block b (hm.lt ⟨q, l, hβ1o q l b hl hb, hb⟩) fun hc => ?_
          obtain ⟨k, l', hk, h1, h2⟩ := hown b hc
          exact hq (hm.inj k q l' l b h1 (hβ1o q l b hl hb) h2 hb ▸ hsubs k hk)
        · obtain ⟨o', ho'⟩ := mem_names.1 hq
          rw [get_sets_mem hnb ho'] at hg
          cases hg
          obtain ⟨j, o0, hj, rfl, rfl⟩ := mem_back.1 ho'
          have hgj := get_of_mem hmn hj
          obtain ⟨l, hl, _⟩ := hm'.obs j o0 hgj
          exact ⟨l, by rw [hb'in j o0 hj, hl], hobs' j o0 l hj hgj hl⟩
        · obtain ⟨o', ho'⟩ := mem_names.1 hq
          exact ⟨o', get_sets_mem hnb ho'⟩
        · rcases hb'cases q l hl with ⟨j, o, hj, rfl, hl'⟩ | ⟨hqn, _⟩
          · have hz := hm'.apart b ⟨j, l, hl', hb⟩
            refine ⟨fun h0 => hz (by rw [hZ']; exact .inl h0), fun k' l' hk' hb' => ?_⟩
            rcases hb'cases k' l' hk' with ⟨j', o', hj', rfl, hl2⟩ | ⟨hqn, hl2⟩
            · rw [hm'.inj j' j l' l b hl2 hl' hb' hb]
            · exfalso
              by_cases hkl : k' ∈ lent
              · -- a lent row is not handed over
                cases hib : ice with
                | true => exact hice0 hib k' l' b hkl hl2 hb'
                | false =>
                  rcases hstep.own b ⟨j, l, hl', hb⟩ with hc | hc
                  · obtain ⟨k, l3, hk, h1, h2⟩ := hown b hc
                    exact hdis k' hkl (hm.inj k k' l3 l' b h1 (hβ1o k' l' b hl2 hb') h2 hb' ▸ hk)
                  · have := hm.lt ⟨k', l', hβ1o k' l' b hl2 hb', hb'⟩
                    omega
              · exact hz (hkept k' l' b (fun hqk => hqn (hsubs k' hqk)) hl2 hb' hkl)
          · exact absurd hq hqn
      · dsimp only
        cases hib : ice with
        | false =>
          rw [hib] at hice
          exact SV.ren_R' hρ' v u (Bool.or_eq_false_iff.1 hice.symm).1 hv
        | true =>
          refine SV.ren_R ⟨Nat.le_refl _, fun b _ hb => ⟨rfl, ?_⟩⟩ hρ' v u hv
          rintro (⟨q, l1, hq, ho⟩ | hz)
          · rcases hb'cases q l1 hq with ⟨j', o', hj', rfl, hl1⟩ | ⟨hqn, hl1⟩
            · exact hb (.inl ⟨j', l1, hl1, ho⟩)
            · exact hb (.inr (hkept q l1 b (fun hqk => hqn (hsubs q hqk)) hl1 ho fun hql => hice0 hib q l1 b hql hl1 ho))
          · exact hb (.inr (by rw [hZ']; exact .inl hz))
    · cases hback
  · cases h
end
end Go.Proofs.Ytlmiaagcnhgfmaa.S2
