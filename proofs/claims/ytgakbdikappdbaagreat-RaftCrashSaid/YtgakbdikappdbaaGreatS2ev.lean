/- S2: a second, plain meaning of the model's code, and that the model does what it says. -/
import Derived.Test.YtgakbdikappdbaaGreatS2za
set_option linter.unusedVariables false
set_option linter.unusedSimpArgs false
namespace Go.Proofs.YtgakbdikappdbaaGreat.S2
open Go
def packName (ks : List Nat) (k : Nat) : Option Nat := if k < 500 then some k else (posIn ks 0 k).map (· + 500)
def packKeys (st : St) : List Nat :=
  (reach st.mem 400 0 (addNew ((names st.mem).filter fun k => decide (k < 500)) (SV.refs.refsL st.tmps))).filter fun k => decide (500 ≤ k)
def packSt (st : St) : Option St := if distinct (packKeys st) then some (renSt (packName (packKeys st)) st) else none
section
variable {w : World} {Z : Nat → Prop} {β : Loc} {a : Act}
theorem pack_sound {st st' : St} (h : packSt st = some st') (hF : FR w (β.away Z) β st.tmps a) (hm : MR w Z β st.mem) :
    ∃ β', WStep w w β β' ∧ FR w (β'.away Z) β' st'.tmps a ∧ MR w Z β' st'.mem := by
  unfold packSt at h
  split at h
  · rename_i hd
    cases h
    obtain ⟨ks, hks⟩ : ∃ ks, ks = packKeys st := ⟨_, rfl⟩
    rw [← hks] at hd ⊢
    have hhi : ∀ k, k ∈ ks → 500 ≤ k := fun k hk => by
      rw [hks] at hk
      simpa using (List.mem_filter.1 hk).2
    have hnd := distinct_nodup hd
    have hpos : ∀ k q, packName ks k = some q → (k < 500 ∧ q = k) ∨ (500 ≤ k ∧ 500 ≤ q ∧ ks[q - 500]? = some k) := fun k q hq => by
      unfold packName at hq
      split at hq
      · cases hq; exact .inl ⟨by assumption, rfl⟩
      · obtain ⟨i, hi, rfl⟩ := Option.map_eq_some_iff.1 hq
        obtain ⟨_, h2⟩ := posIn_some hi
        exact .inr ⟨by omega, by omega, by simpa using h2⟩
    have hback : ∀ i k, ks[i]? = some k → posIn ks 0 k = some i := fun i k hi => by
      obtain ⟨j, hj⟩ := posIn_mem (i := 0) (List.mem_of_getElem? hi)
      obtain ⟨_, h2⟩ := posIn_some hj
      have hlt : i < ks.length := (List.getElem?_eq_some_iff.1 hi).1
      have : i = j := (List.getElem?_inj hlt hnd).1 (by rw [hi, show ks[j]? = some k from by simpa using h2])
      rw [hj, this]
    obtain ⟨h1, h2, h3⟩ := ren_MR (β' := fun q => if q < 500 then β q else match ks[q - 500]? with | some k => β k | none => none) hm (ρ := packName ks) (fun k l q hk hq => by
        rcases hpos k q hq with ⟨hl, rfl⟩ | ⟨_, hq5, hi⟩
        · simp only [hl, if_true, hk]
        · simp only [if_neg (by omega : ¬ q < 500), hi, hk]) (fun q l hl => by
        try dsimp only at hl
        split at hl
        · rename_i hq
          exact ⟨q, by simp [packName, hq], hl⟩
        · rename_i hq
          split at hl
          · rename_i k hk
            refine ⟨k, ?_, hl⟩
            have hk5 := hhi k (List.mem_of_getElem? hk)
            simp only [packName, if_neg (by omega : ¬ k < 500), hback _ _ hk, Option.map_some, Option.some.injEq]
            omega
          · cases hl) (fun k k' q _ _ hk hk' => by
        rcases hpos k q hk with ⟨hl, rfl⟩ | ⟨hl, hq5, hi⟩
        · rcases hpos k' q hk' with ⟨hl', h⟩ | ⟨hl', hq5, hi⟩
          · exact h
          · omega
        · rcases hpos k' q hk' with ⟨hl', h⟩ | ⟨hl', hq5', hi'⟩
          · omega
          · rw [hi] at hi'; cases hi'; rfl)
    refine ⟨_, ⟨rfl, rfl, rfl, Nat.le_refl _, fun _ _ _ => rfl, fun b hb => .inl (h2 b hb), fun k l hk hl => ⟨l, ?_, .refl l⟩⟩, ⟨by simp only [renSt]; rw [renL_length]; exact hF.len, fun i => by simp only [renSt]; rw [renL_getD]; exact h3 _ _ (hF.val i), hF.defers⟩, h1⟩
    try dsimp only
    rw [if_pos hk]
    exact hl
  · cases h
end
section
variable (cb : CB) (byRef : FuncId → CC) {α : Type}
def runds (b : C2) : Nat → St → (Out → St → Option α) → Option α
  | 0, _, _ => none
  | n + 1, st, K => exec cb byRef b st fun o st' => match o with
    | .norm => match packSt st' with | some s => forceSt s fun s => runds b n s K | none => none
    | .exit q => K (.exit q) st'
    | .ret => K .ret st'
end
section
variable {P : Program} {cb : CB} {byRef : FuncId → CC} {B : LAnn → C2 → Prop}
theorem runds_nat {α : Type} (hn : cb.Nat) {b : C2} : ∀ (n : Nat) (st : St) (K : Out → St → Option α), runds cb byRef b n st K = (runds cb byRef b n st fun o s => some (o, s)).bind fun p => K p.1 p.2
  | 0, st, K => rfl
  | n + 1, st, K => by
    simp only [runds]
    rw [exec_nat hn]
    conv => rhs; rw [exec_nat hn]
    rw [Option.bind_assoc]
    congr 1
    funext p
    obtain ⟨o, s⟩ := p
    cases o with
    | norm =>
      dsimp only
      cases packSt s with
      | none => rfl
      | some s1 => simp only [forceSt_eq]; exact runds_nat hn n s1 K
    | exit id => rfl
    | ret => rfl
theorem runds_sound (hcb : cb.OK P B) (hmix : P.follows .mixedOrders = true) {b : C2} (hB : ∀ p, p ∈ loopsOf b → B p.1 p.2) : ∀ (n : Nat) {st st' : St} {o : Out}, runds cb byRef b n st (fun o s => some (o, s)) = some (o, st') → LoopOK P b st o st' := by
  intro n st st' o h an c hc
  have key : ∀ (n : Nat) (st : St), runds cb byRef b n st (fun o s => some (o, s)) = some (o, st') → ∀ (w : World) (Z : Nat → Prop) (β : Loc) (a : Act) (Q : Exit → Act → World → Prop), FR w (β.away Z) β st.tmps a → MR w Z β st.mem →
      (∀ a' w' β', WStep w w' β β' → FR w' (β'.away Z) β' st'.tmps a' → MR w' Z β' st'.mem → Q (exitOf o) a' w') → Code.rounds P c Q n a w := by
    intro n
    induction n with
    | zero => intro st h; cases h
    | succ n ih =>
      intro st h w Z β a Q hF hm hQ
      simp only [runds] at h
      rw [exec_nat hcb.nat] at h
      obtain ⟨⟨o1, s1⟩, h1, h⟩ := Option.bind_eq_some_iff.1 h
      rw [rounds_succ]
      refine exec_sound hcb hmix c hB hc h1 w Z β a _ hF hm fun a' w' β' hs hF' hm' => ?_
      cases o1 with
      | norm =>
        dsimp only at h
        simp only [exitOf, Exit.then]
        split at h
        · rename_i s2 hs2
          rw [forceSt_eq] at h
          obtain ⟨β1, hw1, hF1, hm1⟩ := pack_sound hs2 hF' hm'
          exact ih s2 h w' Z β1 a' Q hF1 hm1 fun a2 w2 β2 hs2 hF2 hm2 => hQ a2 w2 β2 ((hs.trans hw1).trans hs2) hF2 hm2
        · cases h
      | exit q => cases h; exact hQ a' w' β' hs hF' hm'
      | ret => cases h; exact hQ a' w' β' hs hF' hm'
  intro w Z β a Q hF hm hQ
  exact wp_loop_rounds n (key n st h w Z β a Q hF hm hQ)
end
def listDec {α : Type} (f : α → α → Bool) : List α → List α → Bool
  | [], [] => true
  | a :: l, b :: l' => match f a b with
    | true => listDec f l l'
    | false => false
  | _, _ => false
theorem listDec_eq {α : Type} {f : α → α → Bool} (hf : ∀ a b, f a b = true → a = b) : ∀ {l l' : List α}, listDec f l l' = true → l = l'
  | [], [], _ => rfl
  | [], _ :: _, h => by cases h
  | _ :: _, [], h => by cases h
  | a :: l, b :: l', h => by
    simp only [listDec] at h
    split at h
    · rename_i hab
      rw [hf _ _ hab, listDec_eq hf h]
    · cases h
mutual
def Prim.dec : (p : Prim) → p.T → p.T → Bool
  | .int _, (a : Int), (b : Int) => decide (a = b)
  | .bool, (a : Bool), (b : Bool) => a == b
  | .str, (a : ByteArray), (b : ByteArray) => decide (a.data.toList = b.data.toList)
  | .slc _ r, xs, ys => listDec r.dec xs ys
def Row.dec : (r : Row) → r.T → r.T → Bool
  | .nil, _, _ => true
  | .cons p .nil, a, b => p.dec a b
  | .cons p (.cons q r), a, b => p.dec a.1 b.1 && (Row.cons q r).dec a.2 b.2
end
mutual
theorem Prim.dec_eq : (p : Prim) → (a b : p.T) → p.dec a b = true → a = b
  | .int _, a, b, h => by
    simp only [Prim.dec, decide_eq_true_eq] at h
    exact h
  | .bool, a, b, h => eq_of_beq (α := Bool) h
  | .str, a, b, h => by
    have h : a.data.toList = b.data.toList := of_decide_eq_true h
    exact ByteArray.ext (Array.toList_inj.1 h)
  | .slc _ r, xs, ys, h => listDec_eq (Row.dec_eq r) h
theorem Row.dec_eq : (r : Row) → (a b : r.T) → r.dec a b = true → a = b
  | .nil, (), (), _ => rfl
  | .cons p .nil, a, b, h => Prim.dec_eq p a b h
  | .cons p (.cons q r), (a, a'), (b, b'), h => by
    simp only [Row.dec, Bool.and_eq_true] at h
    exact Prod.ext (Prim.dec_eq p _ _ h.1) (Row.dec_eq (.cons q r) _ _ h.2)
end
def rowDec (e : TypeId) (r : Row) (xs : List r.T) (e' : TypeId) (r' : Row) (ys : List r'.T) : Bool :=
  if h : r' = r then (if e = e' then listDec r.dec xs (castRow h ys) else false) else false
theorem rowDec_eq {e : TypeId} {r : Row} {xs : List r.T} {e' : TypeId} {r' : Row} {ys : List r'.T} (h : rowDec e r xs e' r' ys = true) : (⟨e, r, xs⟩ : TypeId × (r : Row) × List r.T) = ⟨e', r', ys⟩ := by
  unfold rowDec at h
  split at h
  · rename_i hr
    subst hr
    split at h
    · rename_i he
      subst he
      rw [listDec_eq (Row.dec_eq _) h]
      rfl
    · cases h
  · cases h
def SV.dec : SV → SV → Bool
  | .dead, .dead => true
  | .int k n, .int k' n' => decide (k = k') && decide (n = n')
  | .bool b, .bool b' => b == b'
  | .str s, .str s' => decide (s.data.toList = s'.data.toList)
  | .sl k o l, .sl k' o' l' => decide (k = k') && (decide (o = o') && decide (l = l'))
  | .slw k, .slw k' => decide (k = k')
  | .ps e r xs, .ps e' r' ys => rowDec e r xs e' r' ys
  | .nils, .nils => true
  | .pe, .pe => true
  | .ptr k i f, .ptr k' i' f' => decide (k = k') && (decide (i = i') && decide (f = f'))
  | .nilp, .nilp => true
  | .nilf, .nilf => true
  | .nili, .nili => true
  | .nilm, .nilm => true
  | .mp k, .mp k' => decide (k = k')
  | .bsl k n, .bsl k' n' => decide (k = k') && decide (n = n')
  | _, _ => false
theorem SV.dec_eq {a b : SV} (h : a.dec b = true) : a = b := by
  unfold SV.dec at h
  split at h <;> first
    | rfl
    | (simp only [Bool.and_eq_true, decide_eq_true_eq] at h; obtain ⟨rfl, rfl, rfl⟩ := h; rfl)
    | (simp only [Bool.and_eq_true, decide_eq_true_eq] at h; obtain ⟨rfl, rfl⟩ := h; rfl)
    | (simp only [decide_eq_true_eq] at h; subst h; rfl)
    | (simp only [decide_eq_true_eq] at h; rw [ByteArray.ext (Array.toList_inj.1 h)])
    | (have h := eq_of_beq h; subst h; rfl)
    | (have h := rowDec_eq h; cases h; rfl)
    | cases h
def Ob.dec : Ob → Ob → Bool
  | .cells cs, .cells cs' => listDec SV.dec cs cs'
  | .tcells t cs, .tcells t' cs' => decide (t = t') && listDec SV.dec cs cs'
  | .row e r xs, .row e' r' ys => rowDec e r xs e' r' ys
  | .froz e r xs, .froz e' r' ys => rowDec e r xs e' r' ys
  | .gone, .gone => true
  | _, _ => false
theorem Ob.dec_eq {a b : Ob} (h : a.dec b = true) : a = b := by
  unfold Ob.dec at h
  split at h
  · rw [listDec_eq (fun _ _ => SV.dec_eq) h]
  · simp only [Bool.and_eq_true, decide_eq_true_eq] at h
    rw [h.1, listDec_eq (fun _ _ => SV.dec_eq) h.2]
  · have h := rowDec_eq h; cases h; rfl
  · have h := rowDec_eq h; cases h; rfl
  · rfl
  · cases h
def changed (m : Mem) (x : Nat × Ob) : Bool := match m.get x.1 with | some o => !(o.dec x.2) | none => true
def dropSame (m m' : Mem) : Mem :=
  match distinct (names m') with
  | true => m'.filter (changed m)
  | false => m'
theorem sets_filter (m : Mem) : ∀ (l m1 m2 : Mem), distinct (names l) = true → (∀ k, k ∈ names l → m1.get k = m.get k) → (∀ q, m1.get q = m2.get q) → ∀ q, (m1.sets (l.filter (changed m))).get q = (m2.sets l).get q
  | [], m1, m2, _, _, h, q => h q
  | (k, o) :: l, m1, m2, hdi, hm, h, q => by
    simp only [names, distinct, Bool.and_eq_true, Bool.not_eq_true'] at hdi
    have hk : k ∉ names l := by simpa using hdi.1
    by_cases hc : changed m (k, o) = true
    · rw [List.filter_cons_of_pos hc]
      simp only [Mem.sets]
      refine sets_filter m l _ _ hdi.2 (fun k' hk' => ?_) (fun q => ?_) q
      · rw [Mem.get_set, if_neg (by rintro rfl; exact hk hk')]
        exact hm k' (by simp [names, hk'])
      · rw [Mem.get_set, Mem.get_set, h q]
    · rw [List.filter_cons_of_neg hc]
      simp only [Mem.sets]
      refine sets_filter m l _ _ hdi.2 (fun k' hk' => hm k' (by simp [names, hk'])) (fun q => ?_) q
      rw [Mem.get_set]
      split
      · rename_i hq
        rw [hq, hm k (by simp [names])]
        unfold changed at hc
        split at hc
        · rename_i o' ho'
          dsimp only at ho'
          rw [ho', Ob.dec_eq (a := o') (b := o) (by simpa using hc)]
        · simp at hc
      · exact h q
theorem dropSame_get (m m' : Mem) (q : Nat) : (m.sets (dropSame m m')).get q = (m.sets m').get q := by
  unfold dropSame
  split
  · rename_i hd
    exact sets_filter m m' m m hd (fun _ _ => rfl) (fun _ => rfl) q
  · rfl
theorem CallOK.same {P : Program} {f : FuncId} {args : List SV} {m : Mem} {v : SV} {m' : Mem} (h : CallOK P f args m v m') : CallOK P f args m v (dropSame m m') := by
  intro w Z β vs hm hx
  refine (h w Z β vs hm hx).mono fun u w' ⟨β', k1, k2, k3⟩ => ⟨β', k1, k2.congr (dropSame_get m m'), k3⟩
def inl (ext : List (Nat × Con)) (rd : List Nat) (tab : FuncId → Option FD) (byRef : FuncId → CC) (rc : RC) (r : Nat) : Nat → CB
  | 0 => ⟨fun _ _ _ _ => none, fun _ _ _ _ => none, fun _ _ _ _ => none⟩
  | n + 1 => ⟨fun f args m K => match ext.any (fun p => Nat.beq p.1 f) with
        | true => runCons f args m K ext
        | false => match tab f with
          | some fd => (match rd.contains f with
            | true => callBody (inl ext rd tab byRef rc r n) byRef rc fd args m fun v m' => K v (dropSame m m')
            | false => callBody (inl ext rd tab byRef rc r n) byRef rc fd args m K)
          | none => none,
      fun _ b st K => runds (inl ext rd tab byRef rc r n) byRef b r st K, fun _ _ _ _ => none⟩
theorem callBody_nat' {α : Type} {cb : CB} (hn : cb.Nat) (byRef : FuncId → CC) (rc : RC) (fd : FD) (args : List SV) (m : Mem) (K : SV → Mem → Option α) :
    callBody cb byRef rc fd args m K = (callBody cb byRef rc fd args m fun v m' => some (v, m')).bind fun p => K p.1 p.2 := by
  unfold callBody
  split
  · rw [exec_nat hn]
    conv => rhs; rw [exec_nat hn]
    rw [Option.bind_assoc]
    congr 1
    funext p
    obtain ⟨o, s⟩ := p
    dsimp only
    cases o.ends with
    | false => rfl
    | true =>
      dsimp only
      cases resOf fd.results s with
      | none => rfl
      | some v =>
        dsimp only
        cases retMoves m.length rc.moves 0 v (s.mem.sets (nilsUpd 99999 (retArgs v m.length) rc.nils 0 s.mem)) with
        | none => rfl
        | some p =>
          dsimp only
          cases rc.pur with
          | true =>
            dsimp only
            unfold givePure
            dsimp only
            split <;> rfl
          | false =>
            dsimp only
            unfold giveBack
            dsimp only
            split <;> rfl
  · rfl
theorem inl_nat (ext : List (Nat × Con)) (rd : List Nat) (tab : FuncId → Option FD) (byRef : FuncId → CC) (rc : RC) (r : Nat) : ∀ n, (inl ext rd tab byRef rc r n).Nat
  | 0 => ⟨fun _ _ _ _ => rfl, fun _ _ _ _ => rfl, fun _ _ _ _ => rfl⟩
  | n + 1 => ⟨fun f args m K => by
      simp only [inl]
      split
      · exact runCons_nat K ext
      cases tab f with
      | none => rfl
      | some fd =>
        dsimp only
        cases rd.contains f with
        | false => exact callBody_nat' (inl_nat ext rd tab byRef rc r n) byRef rc fd args m K
        | true =>
          dsimp only
          rw [callBody_nat' (inl_nat ext rd tab byRef rc r n) byRef rc fd args m fun v m' => K v (dropSame m m'), callBody_nat' (inl_nat ext rd tab byRef rc r n) byRef rc fd args m fun v m' => some (v, dropSame m m'), Option.bind_assoc]
          congr 1,
    fun an b st K => runds_nat (inl_nat ext rd tab byRef rc r n) r st K, fun _ _ _ _ => rfl⟩
theorem inl_ok {P : Program} (hmix : P.follows .mixedOrders = true) {ext : List (Nat × Con)} (hext : ∀ p, p ∈ ext → ConOK P p.1 p.2) {rd : List Nat} {tab : FuncId → Option FD} (htab : ∀ f fd, tab f = some fd → ∃ an fn, FnOK P an f fn fd) (byRef : FuncId → CC) (rc : RC) (r : Nat) : ∀ n, (inl ext rd tab byRef rc r n).OK P (fun _ _ => True)
  | 0 => ⟨inl_nat ext rd tab byRef rc r 0, ⟨fun h => (by cases h)⟩, fun _ h => (by cases h), fun _ h => (by cases h)⟩
  | n + 1 => ⟨inl_nat ext rd tab byRef rc r (n + 1), ⟨fun {f args m v m'} h => by
      simp only [inl] at h
      split at h
      · exact runCons_ok ext hext h
      split at h
      · rename_i fd hfd
        obtain ⟨an, fn, hf⟩ := htab f fd hfd
        split at h
        · rw [callBody_nat' (inl_nat ext rd tab byRef rc r n)] at h
          obtain ⟨p, hp, h⟩ := Option.bind_eq_some_iff.1 h
          cases h
          exact (callBody_sound (inl_ok hmix hext htab byRef rc r n) hmix hf (fun _ _ => trivial) hp).same
        · exact callBody_sound (inl_ok hmix hext htab byRef rc r n) hmix hf (fun _ _ => trivial) h
      · cases h⟩,
    fun {an b st st' o} _ h => runds_sound (inl_ok hmix hext htab byRef rc r n) hmix (fun _ _ => trivial) r h, fun _ h => (by cases h)⟩
def fnTab (P : Program) (an : Nat → LAnn) (fs : List Nat) (f : FuncId) : Option FD :=
  match fs.contains f with
  | true => match P.funcs[f]? with
    | some fn => match fn.name == "runtime.NumGoroutine" with
      | true => none
      | false => compFunc P an fn
    | none => none
  | false => none
theorem fnTab_ok {P : Program} {an : Nat → LAnn} {fs : List Nat} : ∀ f fd, fnTab P an fs f = some fd → ∃ an fn, FnOK P an f fn fd := by
  intro f fd h
  unfold fnTab at h
  split at h
  · split at h
    · rename_i fn hfn
      split at h
      · cases h
      · rename_i hn
        exact ⟨an, fn, hfn, h, hn⟩
    · cases h
  · cases h
theorem run_call {P : Program} (hmix : P.follows .mixedOrders = true) {ext : List (Nat × Con)} (hext : ∀ p, p ∈ ext → ConOK P p.1 p.2) {rd : List Nat} {an : Nat → LAnn} {fs : List Nat} {byRef : FuncId → CC} {rc : RC} {r n : Nat} {f : FuncId} {args : List SV} {m : Mem} {v : SV} {m' : Mem}
    (h : (inl ext rd (fnTab P an fs) byRef rc r n).call f args m (fun v m' => some (v, m')) = some (v, m')) : CallOK P f args m v m' :=
  (inl_ok hmix hext fnTab_ok byRef rc r n).calls.call h
theorem callOK_same {P : Program} {f : FuncId} (h : ∀ (x : Value) (w : World), (callFunc f #[x]).run P w = .ok (.value x) w) {x : SV} {m : Mem} : CallOK P f [x] m x [] := by
  rintro w Z β vs hm ⟨v, vs', rfl, hx, rfl⟩
  exact .inl ⟨v, w, h v w, β, Step.refl w β, hm, hx⟩
end Go.Proofs.YtgakbdikappdbaaGreat.S2
