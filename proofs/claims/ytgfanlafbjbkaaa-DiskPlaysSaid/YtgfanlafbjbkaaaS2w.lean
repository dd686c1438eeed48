/-
  S2, twenty-third part: code and functions are sound.
-/
import Derived.Test.YtgfanlafbjbkaaaS2v
import Derived.LoopN
set_option linter.unusedVariables false
set_option linter.unusedSimpArgs false
namespace Go.Proofs.Ytgfanlafbjbkaaa.S2
open Go

section
variable {cb : CB} {byRef : FuncId → CC}

theorem exec_nat {α : Type} (hn : cb.Nat) : ∀ (c : C2) (st : St) (K : Out → St → Option α), exec cb byRef c st K = (exec cb byRef c st fun o s => some (o, s)).bind fun p => K p.1 p.2
  | .skip, st, K => rfl
  | .region ops draw, st, K => by
    simp only [exec]
    cases draw with
    | false =>
      dsimp only
      rw [runOps_nat hn]
      conv => rhs; rw [runOps_nat hn]
      rw [Option.bind_assoc]; rfl
    | true =>
      dsimp only
      rw [runOps_nat hn]
      conv => rhs; rw [runOps_nat hn]
      rw [Option.bind_assoc]
      congr 1
      funext p
      cases anyOrder ops p.2 <;> rfl
  | .seq a b, st, K => by
    simp only [exec]
    rw [exec_nat hn a]
    conv => rhs; rw [exec_nat hn a]
    rw [Option.bind_assoc]
    congr 1
    funext p
    obtain ⟨o, s⟩ := p
    cases o with
    | norm => exact exec_nat hn b s K
    | exit id => rfl
    | ret => rfl
  | .cond c x y, st, K => by
    cases c with
    | tmp t =>
      simp only [exec]
      cases st.tmps.getD t .dead with
      | bool b => cases b <;> dsimp only <;> exact exec_nat hn _ _ K
      | _ => rfl
    | k v =>
      cases v with
      | bool b => cases b <;> simp only [exec] <;> exact exec_nat hn _ _ K
      | _ => rfl
  | .block id b, st, K => by
    simp only [exec]
    rw [exec_nat hn b]
    conv => rhs; rw [exec_nat hn b]
    rw [Option.bind_assoc]
    congr 1
    funext p
    obtain ⟨o, s⟩ := p
    cases o with
    | norm => rfl
    | exit q => dsimp only; split <;> rfl
    | ret => rfl
  | .loop an b, st, K => by
    simp only [exec]
    cases headOf an st with
    | none => rfl
    | some s => exact hn.loop an b s K
  | .exit id, st, K => rfl
  | .ret, st, K => rfl
  | .stuck, st, K => rfl
end

def exitOf : Out → Exit
  | .norm => .normal
  | .exit id => .exit id
  | .ret => .ret

/-- Code, from a frame, ends so. -/
def CodeOK (P : Program) (c : Code) (st : St) (o : Out) (st' : St) : Prop :=
  ∀ (w : World) (Z : Nat → Prop) (β : Loc) (a : Act) (Q : Exit → Act → World → Prop), FR w (β.away Z) β st.tmps a → MR w Z β st.mem →
    (∀ a' w' β', WStep w w' β β' → FR w' (β'.away Z) β' st'.tmps a' → MR w' Z β' st'.mem → Q (exitOf o) a' w') → c.wp P Q a w

def LoopOK (P : Program) (b : C2) (st : St) (o : Out) (st' : St) : Prop := ∀ (an : Nat → LAnn) (c : Code), compCode P an c = some b → CodeOK P (.loop c) st o st'

/-- The loops of code. -/
def loopsOf : C2 → List (LAnn × C2)
  | .seq a b => loopsOf a ++ loopsOf b
  | .cond _ x y => loopsOf x ++ loopsOf y
  | .block _ b => loopsOf b
  | .loop an b => (an, b) :: loopsOf b
  | _ => []

structure CB.OK (P : Program) (B : LAnn → C2 → Prop) (cb : CB) : Prop where
  nat : cb.Nat
  calls : cb.CallsOK P
  loop : ∀ {an : LAnn} {b : C2} {st st' : St} {o : Out}, B an b → cb.loop an b st (fun o s => some (o, s)) = some (o, st') → LoopOK P b st o st'

section
variable {P : Program} {cb : CB} {byRef : FuncId → CC} {B : LAnn → C2 → Prop}

theorem exec_sound (hcb : cb.OK P B) (hmix : P.follows .mixedOrders = true) {an : Nat → LAnn} : ∀ (c : Code) {c2 : C2} {st st' : St} {o : Out}, (∀ p, p ∈ loopsOf c2 → B p.1 p.2) → compCode P an c = some c2 → exec cb byRef c2 st (fun o s => some (o, s)) = some (o, st') → CodeOK P c st o st' := by
  intro c
  induction c with
  | skip =>
    intro c2 st st' o hB hc h w Z β a Q hF hm hQ
    simp only [compCode] at hc
    cases hc
    cases h
    exact wp_skip (hQ a w β (WStep.refl w β) hF hm)
  | region id ops draw =>
    intro c2 st st' o hB hc h w Z β a Q hF hm hQ
    simp only [compCode] at hc
    split at hc
    · rename_i l hl
      split at hc
      · rename_i hah
        cases hc
        simp only [exec] at h
        cases draw with
        | false =>
          dsimp only at h
          rw [runOps_nat hcb.nat] at h
          obtain ⟨⟨s, tr⟩, hr, h⟩ := Option.bind_eq_some_iff.1 h
          cases h
          exact region_sound hcb.nat hcb.calls hmix hl hah hr (fun h => by cases h) hF hm fun a' w' β' hs hF' hm' => hQ a' w' β' hs.weak hF' hm'
        | true =>
          dsimp only at h
          rw [runOps_nat hcb.nat] at h
          obtain ⟨⟨s, tr⟩, hr, h⟩ := Option.bind_eq_some_iff.1 h
          dsimp only at h
          split at h
          · rename_i hany
            cases h
            exact region_sound hcb.nat hcb.calls hmix hl hah hr (fun _ => hany) hF hm fun a' w' β' hs hF' hm' => hQ a' w' β' hs.weak hF' hm'
          · cases h
      · cases hc
    · cases hc
  | seq x y ihx ihy =>
    intro c2 st st' o hB hc h w Z β a Q hF hm hQ
    simp only [compCode] at hc
    split at hc
    · rename_i x2 y2 hx hy
      cases hc
      simp only [exec] at h
      rw [exec_nat hcb.nat] at h
      obtain ⟨⟨o1, s1⟩, h1, h⟩ := Option.bind_eq_some_iff.1 h
      refine wp_seq (ihx (fun p hp => hB p (List.mem_append_left _ hp)) hx h1 w Z β a _ hF hm fun a' w' β' hs hF' hm' => ?_)
      cases o1 with
      | norm => exact ihy (fun p hp => hB p (List.mem_append_right _ hp)) hy h w' Z β' a' Q hF' hm' fun a2 w2 β2 hs2 hF2 hm2 => hQ a2 w2 β2 (hs.trans hs2) hF2 hm2
      | exit id => cases h; exact hQ a' w' β' hs hF' hm'
      | ret => cases h; exact hQ a' w' β' hs hF' hm'
    · cases hc
  | cond cd x y ihx ihy =>
    intro c2 st st' o hB hc h w Z β a Q hF hm hQ
    simp only [compCode] at hc
    split at hc
    · rename_i cd2 x2 y2 hcd hx hy
      cases hc
      have hcond := opd_R hF.val hcd
      cases cd2 with
      | tmp t =>
        simp only [exec] at h
        simp only [Opd.ev] at hcond
        split at h
        · rename_i b hb
          rw [hb] at hcond
          simp only [SV.R] at hcond
          have hset : st.tmps.set t (.bool b) = st.tmps := set_getD _ _ _ hb
          cases b with
          | true =>
            dsimp only at h
            rw [hset] at h
            exact wp_cond_true hcond (ihx (fun p hp => hB p (List.mem_append_left _ hp)) hx h w Z β a Q hF hm hQ)
          | false =>
            dsimp only at h
            rw [hset] at h
            exact wp_cond_false hcond (ihy (fun p hp => hB p (List.mem_append_right _ hp)) hy h w Z β a Q hF hm hQ)
        · cases h
      | k v =>
        cases v with
        | bool b =>
          simp only [Opd.ev, SV.R] at hcond
          cases b with
          | true => exact wp_cond_true hcond (ihx (fun p hp => hB p (List.mem_append_left _ hp)) hx h w Z β a Q hF hm hQ)
          | false => exact wp_cond_false hcond (ihy (fun p hp => hB p (List.mem_append_right _ hp)) hy h w Z β a Q hF hm hQ)
        | _ => cases h
    · cases hc
  | block id b ih =>
    intro c2 st st' o hB hc h w Z β a Q hF hm hQ
    simp only [compCode] at hc
    obtain ⟨b2, hb, rfl⟩ := map_some' hc
    simp only [exec] at h
    rw [exec_nat hcb.nat] at h
    obtain ⟨⟨o1, s1⟩, h1, h⟩ := Option.bind_eq_some_iff.1 h
    refine wp_block (ih (c2 := b2) hB hb h1 w Z β a _ hF hm fun a' w' β' hs hF' hm' => ?_)
    cases o1 with
    | norm => cases h; exact hQ a' w' β' hs hF' hm'
    | exit q =>
      dsimp only at h
      simp only [exitOf, Exit.inBlock]
      split at h
      · rename_i hq
        cases h
        rw [if_pos hq]
        exact hQ a' w' β' hs hF' hm'
      · rename_i hq
        cases h
        rw [if_neg hq]
        exact hQ a' w' β' hs hF' hm'
    | ret => cases h; exact hQ a' w' β' hs hF' hm'
  | loop b ih =>
    intro c2 st st' o hB hc h w Z β a Q hF hm hQ
    simp only [compCode] at hc
    obtain ⟨b2, hb, rfl⟩ := map_some' hc
    simp only [exec] at h
    split at h
    · cases h
    · rename_i s1 hs1
      obtain ⟨β1, hw1, hF1, hm1⟩ := head_sound hs1 hF hm
      exact hcb.loop (hB _ List.mem_cons_self) h an b hb w Z β1 a Q hF1 hm1 fun a' w' β' hs hF' hm' => hQ a' w' β' (hw1.trans hs) hF' hm'
  | exit id =>
    intro c2 st st' o hB hc h w Z β a Q hF hm hQ
    simp only [compCode] at hc
    cases hc
    cases h
    exact wp_exit (hQ a w β (WStep.refl w β) hF hm)
  | ret =>
    intro c2 st st' o hB hc h w Z β a Q hF hm hQ
    simp only [compCode] at hc
    cases hc
    cases h
    exact wp_ret (hQ a w β (WStep.refl w β) hF hm)
  | _ =>
    intro c2 st st' o hB hc h
    simp only [compCode] at hc
    cases hc
    cases h

/-- What rounds of a loop come to. -/
theorem rounds_sound (hcb : cb.OK P B) (hmix : P.follows .mixedOrders = true) {lan : LAnn} {b : C2} (hB : ∀ p, p ∈ loopsOf b → B p.1 p.2) : ∀ (n : Nat) {st st' : St} {o : Out}, rounds cb byRef lan b n st (fun o s => some (o, s)) = some (o, st') → LoopOK P b st o st' := by
  intro n st st' o h an c hc
  have key : ∀ (n : Nat) (st : St), rounds cb byRef lan b n st (fun o s => some (o, s)) = some (o, st') → ∀ (w : World) (Z : Nat → Prop) (β : Loc) (a : Act) (Q : Exit → Act → World → Prop), FR w (β.away Z) β st.tmps a → MR w Z β st.mem →
      (∀ a' w' β', WStep w w' β β' → FR w' (β'.away Z) β' st'.tmps a' → MR w' Z β' st'.mem → Q (exitOf o) a' w') → Code.rounds P c Q n a w := by
    intro n
    induction n with
    | zero => intro st h; cases h
    | succ n ih =>
      intro st h w Z β a Q hF hm hQ
      simp only [rounds, round] at h
      rw [exec_nat hcb.nat] at h
      obtain ⟨⟨o1, s1⟩, h1, h⟩ := Option.bind_eq_some_iff.1 h
      rw [rounds_succ]
      refine exec_sound hcb hmix c hB hc h1 w Z β a _ hF hm fun a' w' β' hs hF' hm' => ?_
      cases o1 with
      | norm =>
        dsimp only at h
        simp only [exitOf, Exit.then]
        split at h
        · rename_i s2 hs2
          obtain ⟨β1, hw1, hF1, hm1⟩ := head_sound hs2 hF' hm'
          exact ih s2 h w' Z β1 a' Q hF1 hm1 fun a2 w2 β2 hs2 hF2 hm2 => hQ a2 w2 β2 ((hs.trans hw1).trans hs2) hF2 hm2
        · cases h
      | exit q =>
        obtain ⟨β1, hw1, hF1, hm1⟩ := tail_sound (an := lan) hF' hm'
        cases h; exact hQ a' w' β1 (hs.trans hw1) hF1 hm1
      | ret =>
        obtain ⟨β1, hw1, hF1, hm1⟩ := tail_sound (an := lan) hF' hm'
        cases h; exact hQ a' w' β1 (hs.trans hw1) hF1 hm1
  intro w Z β a Q hF hm hQ
  exact wp_loop_rounds n (key n st h w Z β a Q hF hm hQ)

/-! ### what a function gives back -/

theorem resVar_R {w : World} {Z : Nat → Prop} {β : Loc} {st : St} {a : Act} (hF : FR w (β.away Z) β st.tmps a) (hm : MR w Z β st.mem) {r : ResultVar} {rv : RV} (hr : compRV P r = some rv) {x : SV} (hx : rvOf st rv = some x) :
    ∃ u, (match r with | .tmp t => (pure (a.tmps.getD t undef) : Sem Value) | .cell ad t => do loadVar t (← asAddr (a.tmps.getD ad undef))).run P w = .ok u w ∧ x.R w (β.away Z) β u := by
  cases r with
  | tmp t =>
    simp only [compRV] at hr
    cases hr
    cases hx
    exact ⟨_, rfl, hF.val _⟩
  | cell ad t =>
    simp only [compRV] at hr
    have hload : ∀ (n : Option Nat) e, sizeT P t = some n → loadx n (st.tmps.getD ad .dead) st.mem = some e → ∃ u, ((do loadVar t (← asAddr (a.tmps.getD ad undef))) : Sem Value).run P w = .ok u w ∧ e.val.R w (β.away Z) β u := by
      intro n e hs he
      obtain ⟨_, u, hu, hur⟩ := loadx_sound (P := P) hm (hF.val ad) he hs
      refine ⟨u, ?_, hur⟩
      have hp : ∃ A, a.tmps.getD ad undef = .pointer (some A) := by
        have hv := hF.val ad
        unfold loadx at he
        cases hsv : st.tmps.getD ad .dead with
        | ptr k i fo =>
          rw [hsv] at hv
          simp only [SV.R] at hv
          obtain ⟨l, _, hl⟩ := hv
          exact addr_some hl
        | pptr e r xs i fo =>
          rw [hsv] at hv
          simp only [SV.R] at hv
          obtain ⟨_, A, _, hA, _⟩ := hv
          exact ⟨_, hA⟩
        | _ => rw [hsv] at he; cases n <;> cases he
      obtain ⟨A, hA⟩ := hp
      rw [hA] at hu ⊢
      simpa [Instr.loadAt, Instr.sureAddr, asAddr] using hu
    split at hr
    · rename_i n hs
      cases hr
      simp only [rvOf, if_true] at hx
      split at hx
      · rename_i e he
        cases hx
        exact hload _ e hs he
      · cases hx
    · rename_i hs
      cases hr
      simp only [rvOf] at hx
      split at hx
      · rename_i e he
        cases hx
        exact hload _ e hs (by simpa using he)
      · cases hx
    · cases hr

theorem resVars_R {w : World} {Z : Nat → Prop} {β : Loc} {st : St} {a : Act} (hF : FR w (β.away Z) β st.tmps a) (hm : MR w Z β st.mem) : ∀ {rs : List ResultVar} {rvs : List RV} {xs : List SV}, allSome (compRV P) rs = some rvs → rvsOf st rvs = some xs →
    ∃ us : List Value, (rs.mapM (fun r : ResultVar => match r with | .tmp t => (pure (a.tmps.getD t undef) : Sem Value) | .cell ad t => do loadVar t (← asAddr (a.tmps.getD ad undef)))).run P w = .ok us w ∧ SV.RL w (β.away Z) β xs us
  | [], rvs, xs, h, hx => by
    simp only [allSome] at h
    cases h
    cases hx
    exact ⟨[], by simp, rfl⟩
  | r :: rs, rvs, xs, h, hx => by
    simp only [allSome] at h
    split at h
    · rename_i rv rvs' hrv hrvs
      cases h
      simp only [rvsOf] at hx
      split at hx
      · rename_i v vs hv hvs
        cases hx
        obtain ⟨u, hu, hur⟩ := resVar_R hF hm hrv hv
        obtain ⟨us, hus, husr⟩ := resVars_R hF hm hrvs hvs
        refine ⟨u :: us, ?_, u, us, rfl, hur, husr⟩
        simp only [List.mapM_cons, Sem.run_bind]
        rw [hu]
        simp only [Result.andThen_ok]
        rw [hus]
        rfl
      · cases hx
    · cases h

theorem results_R {w : World} {Z : Nat → Prop} {β : Loc} {st : St} {a : Act} (hF : FR w (β.away Z) β st.tmps a) (hm : MR w Z β st.mem) {fn : Func} {rvs : List RV} (hr : allSome (compRV P) fn.results.toList = some rvs) {x : SV} (hx : resOf rvs st = some x) :
    ∃ u, (results fn a.tmps).run P w = .ok u w ∧ x.R w (β.away Z) β u := by
  unfold resOf at hx
  have hgo : ∀ xs, rvsOf st rvs = some xs → ∃ us : List Value, (results fn a.tmps).run P w = .ok (if h : us.toArray.size = 1 then us.toArray[0] else .tuple us.toArray) w ∧ SV.RL w (β.away Z) β xs us := by
    intro xs hxs
    obtain ⟨us, hus, husr⟩ := resVars_R hF hm hr hxs
    refine ⟨us, ?_, husr⟩
    unfold results
    rw [Array.mapM_eq_mapM_toList]
    simp only [Sem.run_bind, map_eq_pure_bind]
    have h2 : ∀ r : Result (List Value), r = .ok us w → ((r.andThen fun a w' => Sem.run P (pure a.toArray) w').andThen fun a w' => Sem.run P (pure (if h : a.size = 1 then a[0] else Value.tuple a)) w') = .ok (if h : us.toArray.size = 1 then us.toArray[0] else Value.tuple us.toArray) w := by
      rintro _ rfl
      rfl
    exact h2 _ hus
  split at hx
  · rename_i v hv
    cases hx
    obtain ⟨us, hus, v', us', rfl, hur, he⟩ := hgo _ hv
    simp only [SV.RL] at he
    subst he
    exact ⟨v', by simpa using hus, hur⟩
  · rename_i vs hnot hvs
    cases hx
    obtain ⟨us, hus, husr⟩ := hgo _ hvs
    have hl := SV.RL_len _ _ husr
    refine ⟨.tuple us.toArray, ?_, us, rfl, husr⟩
    rw [hus, dif_neg]
    intro h1
    simp at h1
    match vs, hl, hnot, hvs with
    | [], hl, _, _ => simp at hl; subst hl; simp at h1
    | [v], _, hnot, hvs => exact hnot v rfl
    | _ :: _ :: _, hl, _, _ => simp at hl; omega
  · cases hx

theorem addNew_pre : ∀ (l ks : List Nat) (i : Nat) (k : Nat), ks[i]? = some k → (addNew ks l)[i]? = some k
  | [], ks, i, k, h => h
  | q :: l, ks, i, k, h => by
    simp only [addNew]
    split
    · exact addNew_pre l ks i k h
    · refine addNew_pre l _ i k ?_
      rw [List.getElem?_append_left (List.getElem?_eq_some_iff.1 h).1]
      exact h

theorem reach_pre {m : Mem} : ∀ (n j : Nat) (ks : List Nat) (i : Nat) (k : Nat), ks[i]? = some k → (reach m n j ks)[i]? = some k
  | 0, _, _, _, _, h => h
  | n + 1, j, ks, i, k, h => by
    simp only [reach]
    split
    · exact h
    · split
      · exact reach_pre n _ _ i k (addNew_pre _ _ i k h)
      · exact reach_pre n _ _ i k h

/-- A part of memory, under other names. -/
theorem sub_MR {w : World} {Z : Nat → Prop} {β : Loc} {m : Mem} (hm : MR w Z β m) {ks : List Nat} (hnd : ks.Nodup) {βc : Loc} (hβc : βc = fun j => match ks[j]? with | some k => β k | none => none) :
    MR w Z βc (subMem m (posIn ks 0) ks 0) ∧ (∀ b, βc.owned b → β.owned b) ∧ ∀ (x : SV) (v : Value), x.R w (β.away Z) β v → (x.ren (posIn ks 0)).R w (βc.away Z) βc v := by
  have hget : ∀ j, (subMem m (posIn ks 0) ks 0).get j = match ks[j]? with | some k => (m.get k).map (Ob.ren (posIn ks 0)) | none => none := by
    intro j
    rw [get_subMem, if_pos (Nat.zero_le _), Nat.sub_zero]
    cases ks[j]? <;> rfl
  have hβj : ∀ j k, ks[j]? = some k → βc j = β k := by intro j k hk; rw [hβc]; simp only [hk]
  have hβs : ∀ j l, βc j = some l → ∃ k, ks[j]? = some k ∧ β k = some l := by
    intro j l hl
    rw [hβc] at hl
    dsimp only at hl
    split at hl
    · rename_i k hk; exact ⟨k, hk, hl⟩
    · cases hl
  have hown : ∀ b, βc.owned b → β.owned b := by
    rintro b ⟨j, l, hl, hb⟩
    obtain ⟨k, hk, hl'⟩ := hβs j l hl
    exact ⟨k, l, hl', hb⟩
  have hρ : ∀ k l j, β k = some l → posIn ks 0 k = some j → βc j = some l := by
    intro k l j hl hj
    obtain ⟨_, h2⟩ := posIn_some hj
    rw [Nat.sub_zero] at h2
    rw [hβj j k h2, hl]
  have hst : Stays w w (β.away Z) (βc.away Z) := ⟨Nat.le_refl _, fun b _ hb => ⟨rfl, fun h' => hb (h'.imp (hown b) id)⟩⟩
  refine ⟨⟨fun j o ho => ?_, fun j l hl => ?_, fun j j' l l' b hl hl' hb hb' => ?_, fun b hb => hm.apart b (hown b hb), hm.old⟩, hown, fun x v hx => SV.ren_R hst hρ x v hx⟩
  · rw [hget] at ho
    split at ho
    · rename_i k hk
      obtain ⟨o0, ho0, rfl⟩ := Option.map_eq_some_iff.1 ho
      obtain ⟨l, hl, hob⟩ := hm.obs k o0 ho0
      exact ⟨l, by rw [hβj j k hk, hl], hob.ren hst hρ⟩
    · cases ho
  · obtain ⟨k, hk, hl'⟩ := hβs j l hl
    obtain ⟨o, ho⟩ := hm.dom k l hl'
    exact ⟨o.ren (posIn ks 0), by rw [hget, hk]; simp [ho]⟩
  · obtain ⟨k, hk, h1⟩ := hβs j l hl
    obtain ⟨k', hk', h2⟩ := hβs j' l' hl'
    have hkk := hm.inj k k' l l' b h1 h2 hb hb'
    subst hkk
    exact nodup_get hnd hk hk'

theorem norm1_R {w : World} {A : Nat → Prop} {β : Loc} {p : Prim} {x : SV} {v : Value} (h : x.R w A β v) : (norm1 p x).R w A β v := by
  unfold norm1
  split
  · simp only [SV.R] at h
    subst h
    exact ⟨none, 0, rfl, ⟨Nat.le_refl _, fun _ => rfl⟩, fun j hj => absurd hj (by simp)⟩
  · simp only [SV.R] at h
    obtain ⟨a, cap, rfl⟩ := h
    exact ⟨some a, cap, rfl, ⟨Nat.zero_le _, fun h => by cases h⟩, fun j hj => absurd hj (by simp)⟩
  · exact h

theorem normL_R {w : World} {A : Nat → Prop} {β : Loc} : ∀ (ps : List Prim) (l : List SV) (vs : List Value), SV.RL w A β l vs → SV.RL w A β (normL ps l) vs
  | [], l, vs, h => by cases l <;> exact h
  | p :: ps, [], vs, h => h
  | p :: ps, x :: l, vs, h => by
    simp only [SV.RL] at h
    obtain ⟨v, vs', rfl, hx, hl⟩ := h
    exact ⟨v, vs', rfl, norm1_R hx, normL_R ps l vs' hl⟩

theorem normV_R {w : World} {A : Nat → Prop} {β : Loc} {ps : List Prim} {x : SV} {v : Value} (h : x.R w A β v) : (normV ps x).R w A β v := by
  unfold normV
  split
  · simp only [SV.R] at h ⊢
    obtain ⟨vs, hv, hl, h1⟩ := h
    exact ⟨vs, hv, normL_R _ _ _ hl, h1⟩
  · split
    · exact norm1_R h
    · exact h

theorem normVs_R {w : World} {A : Nat → Prop} {β : Loc} : ∀ (ps : List (List Prim)) (l : List SV) (vs : List Value), SV.RL w A β l vs → SV.RL w A β (normVs ps l) vs
  | [], l, vs, h => by cases l <;> exact h
  | p :: ps, [], vs, h => h
  | p :: ps, x :: l, vs, h => by
    simp only [SV.RL] at h
    obtain ⟨v, vs', rfl, hx, hl⟩ := h
    exact ⟨v, vs', rfl, normV_R hx, normVs_R ps l vs' hl⟩

theorem normR_R {w : World} {A : Nat → Prop} {β : Loc} {kinds : List (List Prim)} {x : SV} {v : Value} (h : x.R w A β v) : (normR kinds x).R w A β v := by
  unfold normR
  split
  · simp only [SV.R] at h ⊢
    obtain ⟨vs, hv, hl⟩ := h
    exact ⟨vs, hv, normVs_R _ _ _ hl⟩
  · split
    · exact normV_R h
    · exact h

theorem pureR_R {w : World} {Z : Nat → Prop} {β : Loc} {m : Mem} (hm : MR w Z β m) {lent : List Nat} {A' : Nat → Prop} (hA : ∀ b, A' b → (β.freezeL lent).away Z b) {β' : Loc} {ρ : Nat → Option Nat} (hρ : ∀ k l j, β k = some l → ρ k = some j → β' j = some l)
    (x : SV) (v : Value) (hk : ∀ k, k ∈ x.lentR m → k ∈ lent) (hr : x.R w (β.away Z) β v) : ((x.pureR m).ren ρ).R w A' β' v := by
  cases x with
  | tup cs =>
    simp only [SV.pureR, SV.ren, SV.R] at hr ⊢
    obtain ⟨vs, hv, hl⟩ := hr
    exact ⟨vs, hv, SV.pureL_R hm hA hρ cs vs hk hl⟩
  | _ => exact SV.pure_R hm hA hρ _ v hk hr

/-- What is given back. -/
theorem give_sound {w : World} {Z : Nat → Prop} {β : Loc} {m : Mem} (hm : MR w Z β m) {pur : Bool} {kinds : List (List Prim)} {n : Nat} {u v : SV} {m' : Mem}
    (h : (match pur with | true => givePure kinds n u m (fun v m' => some (v, m')) | false => giveBack n u m (fun v m' => some (v, m'))) = some (v, m')) :
    ∃ β', (∀ b, β'.owned b → β.owned b) ∧ (∀ k, k < n → β' k = β k) ∧ MR w Z β' m' ∧ ∀ r, u.R w (β.away Z) β r → v.R w (β'.away Z) β' r := by
  cases pur with
  | false =>
    dsimp only at h
    unfold giveBack at h
    dsimp only at h
    split at h
    · rename_i hcl
      simp only [Bool.and_eq_true] at hcl
      simp only [Option.some.injEq, Prod.mk.injEq] at h
      obtain ⟨rfl, rfl⟩ := h
      obtain ⟨h1, h2, h3⟩ := sub_MR hm (distinct_nodup hcl.2) rfl
      refine ⟨_, h2, fun k hk => ?_, h1, fun r hr => h3 _ _ hr⟩
      have hkk : (reach m 64 0 (addNew (List.range n) u.refs))[k]? = some k := reach_pre _ _ _ _ _ (addNew_pre _ _ _ _ (by rw [List.getElem?_range hk]))
      simp only [hkk]
    · cases h
  | true =>
    dsimp only at h
    unfold givePure at h
    dsimp only at h
    split at h
    · rename_i hcl
      simp only [Bool.and_eq_true] at hcl
      obtain ⟨⟨hclosed, hdist⟩, hdis⟩ := hcl
      simp only [Option.some.injEq, Prod.mk.injEq] at h
      obtain ⟨rfl, rfl⟩ := h
      obtain ⟨ks, hks⟩ : ∃ ks, ks = reach m 64 0 (addNew (List.range n) (u.pureR m).refs) := ⟨_, rfl⟩
      rw [← hks] at hdist hdis
      obtain ⟨βc, hβc⟩ : ∃ βc : Loc, βc = fun j => match ks[j]? with | some k => β k | none => none := ⟨_, rfl⟩
      obtain ⟨h1, h2, h3⟩ := sub_MR hm (distinct_nodup hdist) hβc
      rw [← hks]
      refine ⟨βc, h2, fun k hk => ?_, h1, fun r hr => ?_⟩
      · have hkk : ks[k]? = some k := by rw [hks]; exact reach_pre _ _ _ _ _ (addNew_pre _ _ _ _ (by rw [List.getElem?_range hk]))
        rw [hβc]
        simp only [hkk]
      · refine normR_R (pureR_R hm (lent := u.lentR m) (fun b hb => ?_) (fun k l j hl hj => ?_) u r (fun k hk => hk) hr)
        · rcases hb with ⟨j, l, hl, ho⟩ | hz
          · rw [hβc] at hl
            dsimp only at hl
            split at hl
            · rename_i k hk
              refine .inl ⟨k, l, ?_, ho⟩
              simp only [Loc.freezeL]
              rw [if_neg]
              · exact hl
              · intro hlk
                have := List.all_eq_true.1 hdis k hlk
                simp [List.mem_of_getElem? hk] at this
            · cases hl
          · exact .inr hz
        · obtain ⟨_, h2⟩ := posIn_some hj
          rw [Nat.sub_zero] at h2
          rw [hβc]
          simp only [h2, hl]
    · cases h

/-- What is said of a function. -/
structure FnOK (P : Program) (an : Nat → LAnn) (f : FuncId) (fn : Func) (fd : FD) : Prop where
  has : P.funcs[f]? = some fn
  comp : compFunc P an fn = some fd
  name : (fn.name == "runtime.NumGoroutine") = false

theorem lost_sound {w : World} {Z : Nat → Prop} {β : Loc} {m : Mem} {j : Nat} {e : TypeId} {r : Row} {xs : List r.T} (hm : MR w Z β m) (hj : m.get j = some (.row e r xs)) : ∃ β', WStep w w β β' ∧ MR w Z β' (m.set j .gone) ∧ ∀ x v, SV.R w (β.away Z) β x v → SV.R w (β'.away Z) β' x v := by
  obtain ⟨l, hl, hob⟩ := hm.obs j _ hj
  have hs : Step w w β (β.put j .gone) := ⟨rfl, rfl, rfl, Nat.le_refl _, fun _ _ _ => rfl, fun b hb => by
      obtain ⟨q, l', hq, ho⟩ := hb
      simp only [Loc.put] at hq
      split at hq
      · cases hq; cases ho
      · exact .inl ⟨q, l', hq, ho⟩, fun q l' hq => by
      simp only [Loc.put]
      by_cases hqj : q = j
      · subst hqj
        rw [if_pos rfl]
        rw [hl] at hq
        cases hq
        refine ⟨_, rfl, .gone _ fun b hb => ?_⟩
        subst hb
        exact hob.elim
      · rw [if_neg hqj]
        exact ⟨l', hq, .refl l'⟩⟩
  refine ⟨_, hs.weak, ?_, fun x v hx => SV.R_step hs.stays hs.le x v hx⟩
  refine hm.update (fun q => q = j) hs (fun q hq => ⟨by simp [Loc.put, hq], by rw [Mem.get_set, if_neg hq]⟩) (fun _ _ _ _ _ _ => rfl) (fun q o hq hg => ?_) (fun q l hq hl => ?_) (fun q l b hq hl hb => ?_)
  · subst hq
    rw [Mem.get_set, if_pos rfl] at hg
    cases hg
    exact ⟨.gone, by simp [Loc.put], trivial⟩
  · subst hq
    exact ⟨_, by rw [Mem.get_set, if_pos rfl]⟩
  · subst hq
    simp [Loc.put] at hl
    subst hl
    cases hb

theorem retMove1_sound {w : World} {Z : Nat → Prop} {β : Loc} {m m' : Mem} {key n : Nat} {h : Nat × Nat × Nat} {v v' : SV} {u : Value} (hm : MR w Z β m) (hv : v.R w (β.away Z) β u) (hr : retMove1 key n h v m = some (v', m')) :
    ∃ β', WStep w w β β' ∧ MR w Z β' m' ∧ v'.R w (β'.away Z) β' u := by
  unfold retMove1 at hr
  split at hr
  · rename_i k i fo _
    split at hr
    · rename_i cs hk
      split at hr
      · rename_i j hj
        split at hr
        · split at hr
          · rename_i hc
            obtain ⟨h1, h2, h3⟩ := hc
            simp only [Option.some.injEq, Prod.mk.injEq] at hr
            obtain ⟨rfl, rfl⟩ := hr
            have hF : FR w (β.away Z) β (St.mk [v] m).tmps { tmps := #[u], defers := [] } := ⟨rfl, fun t => by
              cases t with
              | zero => exact hv
              | succ t => trivial, rfl⟩
            have hcell : ∃ lk, β j = some lk ∧ ∃ x, lk.whole x := by
              obtain ⟨l0, hl0, hob0⟩ := hm.obs k _ hk
              cases l0 with
              | box b =>
                obtain ⟨vs, t, hh, hrl, _⟩ := hob0
                have hx : cs[i + fo + h.2.1]? = some (.slw j) := by
                  rw [List.getD_eq_getElem?_getD] at hj
                  cases hq : cs[i + fo + h.2.1]? with
                  | none => rw [hq] at hj; cases hj
                  | some y => rw [hq] at hj; simp at hj; rw [hj]
                obtain ⟨x, _, hx⟩ := SV.RL_get _ _ hrl _ _ hx
                simp only [SV.R] at hx
                obtain ⟨lk, hlk, hw⟩ := hx
                exact ⟨lk, hlk, x, hw⟩
              | _ => exact hob0.elim
            obtain ⟨lk, hlk, x, hw⟩ := hcell
            obtain ⟨β1, s1, f1, m1⟩ := move_sound hF hm (by simpa using h1) h2 h3 (fun b hb => by
              rw [hlk] at hb
              cases hb
              exact hw)
            exact ⟨β1, s1, m1, f1.val 0⟩
          · cases hr
        · split at hr
          · rename_i e r xs hg
            simp only [Option.some.injEq, Prod.mk.injEq] at hr
            obtain ⟨rfl, rfl⟩ := hr
            obtain ⟨β1, s1, m1, h4⟩ := lost_sound hm hg
            exact ⟨β1, s1, m1, h4 _ _ hv⟩
          · simp only [Option.some.injEq, Prod.mk.injEq] at hr
            obtain ⟨rfl, rfl⟩ := hr
            exact ⟨β, WStep.refl w β, hm, hv⟩
          · cases hr
      · cases hr
    · cases hr
  · cases hr

theorem retMoves_sound {w : World} {Z : Nat → Prop} {n : Nat} {u : Value} : ∀ (l : List (Nat × Nat × Nat)) (c : Nat) {β : Loc} {m m' : Mem} {v v' : SV}, MR w Z β m → v.R w (β.away Z) β u → retMoves n l c v m = some (v', m') →
    ∃ β', WStep w w β β' ∧ MR w Z β' m' ∧ v'.R w (β'.away Z) β' u
  | [], c, β, m, m', v, v', hm, hv, h => by cases h; exact ⟨β, WStep.refl w β, hm, hv⟩
  | h :: l, c, β, m, m', v, v', hm, hv, hr => by
    simp only [retMoves] at hr
    split at hr
    · rename_i p hp
      obtain ⟨v1, m1⟩ := p
      obtain ⟨β1, s1, hm1, hv1⟩ := retMove1_sound hm hv hp
      obtain ⟨β2, s2, hm2, hv2⟩ := retMoves_sound l (c + 1) hm1 hv1 hr
      exact ⟨β2, s1.trans s2, hm2, hv2⟩
    · cases hr

theorem give_names {pur : Bool} {kinds : List (List Prim)} {n : Nat} {u v : SV} {m m' : Mem}
    (h : (match pur with | true => givePure kinds n u m (fun v m' => some (v, m')) | false => giveBack n u m (fun v m' => some (v, m'))) = some (v, m')) : (names m').Nodup := by
  cases pur with
  | false =>
    dsimp only at h
    unfold giveBack at h
    dsimp only at h
    split at h
    · simp only [Option.some.injEq, Prod.mk.injEq] at h
      obtain ⟨rfl, rfl⟩ := h
      exact subMem_nodup _ 0
    · cases h
  | true =>
    dsimp only at h
    unfold givePure at h
    dsimp only at h
    split at h
    · simp only [Option.some.injEq, Prod.mk.injEq] at h
      obtain ⟨rfl, rfl⟩ := h
      exact subMem_nodup _ 0
    · cases h

theorem callBody_sound (hcb : cb.OK P B) (hmix : P.follows .mixedOrders = true) {an : Nat → LAnn} {f : FuncId} {fn : Func} {fd : FD} (hf : FnOK P an f fn fd) (hB : ∀ p, p ∈ loopsOf fd.body → B p.1 p.2) {args : List SV} {m : Mem} {rc : RC} {v : SV} {m' : Mem}
    (h : callBody cb byRef rc fd args m (fun v m' => some (v, m')) = some (v, m')) : CallOK P f args m v m' := by
  intro w Z β vs hm hargs
  obtain ⟨hfn, hcomp, hname⟩ := hf
  unfold compFunc at hcomp
  split at hcomp
  · rename_i c hbody
    split at hcomp
    · rename_i b rs hb hrs
      cases hcomp
      unfold callBody at h
      split at h
      · rename_i hchk
        obtain ⟨hlen, hm500, hmall⟩ := hchk
        rw [exec_nat hcb.nat] at h
        obtain ⟨⟨o, st⟩, hex, h⟩ := Option.bind_eq_some_iff.1 h
        dsimp only at h
        split at h
        rotate_left
        · cases h
        rename_i hends
        split at h
        · rename_i u hu
          split at h
          rotate_left
          · cases h
          rename_i p hmv
          have hgive := fun {w' : World} {β' : Loc} (hm' : MR w' Z β' p.2) => give_sound hm' h
          refine .inr ⟨?_, ?_⟩
          · unfold callFunc
            have h1 : fn.name ≠ "runtime.NumGoroutine" := by simpa using hname
            simp [hfn, h1, hbody, Sem.run]
          · refine calls_of_wp hfn hbody ?_
            have hF : FR w (β.away Z) β (args ++ List.replicate (fn.ntmps - args.length) .dead) { tmps := vs.toArray ++ Array.replicate (fn.ntmps - vs.toArray.size) undef, defers := [] } := by
                have hvl := SV.RL_len _ _ hargs
                refine ⟨by simp [hvl], fun i => ?_, rfl⟩
                simp only [Array.getD_eq_getD_getElem?, List.getD]
                rw [Array.getElem?_append, List.getElem?_append]
                simp only [List.size_toArray, hvl]
                split
                · rename_i hi
                  obtain ⟨v, hv, hr⟩ := SV.RL_get _ _ hargs i args[i] (List.getElem?_eq_getElem hi)
                  rw [List.getElem?_toArray, hv, List.getElem?_eq_getElem hi]
                  exact hr
                · rw [List.getElem?_replicate]
                  split <;> trivial
            have hfin : ∀ a' w' β', WStep w w' β β' → FR w' (β'.away Z) β' st.tmps a' → MR w' Z β' st.mem →
                a'.defers = [] ∧ ∃ r, (results fn a'.tmps).run P w' = .ok r w' ∧ (fun e w' => ∃ u_1, e = Ending.returned u_1 ∧ ∃ β', Step w w' β β' ∧ MR w' Z β' (m.sets m') ∧ SV.R w' (β'.away Z) β' v u_1) (.returned r) w' := by
              intro a' w' β' hs hF' hm'
              refine ⟨hF'.defers, ?_⟩
              obtain ⟨r, hr, hrr⟩ := results_R hF' hm' hrs hu
              refine ⟨r, hr, r, rfl, ?_⟩
              obtain ⟨β3, hs3, hm3⟩ := nilsUpd_sound 99999 (retArgs u m.length) rc.nils 0 hm'
              obtain ⟨β4, hs4, hm4, hr4⟩ := retMoves_sound rc.moves 0 hm3 (SV.R_step hs3.stays hs3.le _ _ hrr) hmv
              obtain ⟨β'', h2, h0, h1, h3⟩ := hgive hm4
              have hs5 := hs3.weak.trans hs4
              have hcov : ∀ q o, m.get q = some o → ∃ o', m'.get q = some o' := by
                intro q o ho
                obtain ⟨l, hl, _⟩ := hm.obs q o ho
                have hk : q < m.length := by
                  have := List.all_eq_true.1 hmall _ (get_mem ho)
                  simpa using this
                obtain ⟨l', hl', _⟩ := hs.le q l (by omega) hl
                obtain ⟨l3, hl3, _⟩ := hs5.le q l' (by omega) hl'
                exact h1.dom q l3 (by rw [h0 q hk]; exact hl3)
              have hsame : ∀ q, (m.sets m').get q = m'.get q := by
                intro q
                by_cases hq : q ∈ names m'
                · obtain ⟨o, ho⟩ := mem_names.1 hq
                  rw [get_sets_mem (give_names h) ho]
                  exact (get_of_mem (give_names h) ho).symm
                · rw [Mem.get_sets _ _ _ fun o ho => hq (mem_names.2 ⟨o, ho⟩)]
                  cases hg : m.get q with
                  | none =>
                    cases hg' : m'.get q with
                    | none => rfl
                    | some o => exact (hq (mem_names.2 ⟨o, get_mem hg'⟩)).elim
                  | some o =>
                    obtain ⟨o', ho'⟩ := hcov q o hg
                    exact (hq (mem_names.2 ⟨o', get_mem ho'⟩)).elim
              refine ⟨_, ⟨hs.os, hs.tape, hs.output, hs.size, hs.block, fun b hb => by
                rcases hs5.own b (h2 b hb) with h5 | h5
                · exact hs.own b h5
                · exact .inr (Nat.le_trans hs.size h5), fun k l hl => ?_⟩, h1.congr hsame, h3 _ hr4⟩
              obtain ⟨o, ho⟩ := hm.dom k l hl
              have hk : k < m.length := by
                have := List.all_eq_true.1 hmall _ (get_mem ho)
                simpa using this
              obtain ⟨l', hl', hle⟩ := hs.le k l (by omega) hl
              obtain ⟨l3, hl3, hle3⟩ := hs5.le k l' (by omega) hl'
              exact ⟨l3, by rw [h0 k hk]; exact hl3, hle.trans hle3⟩
            refine exec_sound hcb hmix c hB hb hex w Z β _ _ (by simpa using hF) hm fun a' w' β' hs hF' hm' => ?_
            have := hfin a' w' β' hs hF' hm'
            cases o with
            | norm => exact this
            | ret => exact this
            | exit id => cases hends
        · cases h
      · cases h
    · cases hcomp
  · cases hcomp
end
end Go.Proofs.Ytgfanlafbjbkaaa.S2
