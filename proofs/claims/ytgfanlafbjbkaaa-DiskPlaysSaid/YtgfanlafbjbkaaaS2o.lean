/-
  S2, fifteenth part: each operation but calls, in one word.
-/
import Derived.Test.YtgfanlafbjbkaaaS2n
set_option linter.unusedVariables false
set_option linter.unusedSimpArgs false
namespace Go.Proofs.Ytgfanlafbjbkaaa.S2
open Go

theorem compOpt_R {w : World} {A : Nat → Prop} {β : Loc} {ts : List SV} {a : Act} (ht : TR w A β ts a) {x : Option Operand} {y : Option Opd} (h : compOpt x = some y) :
    (∀ z, y.map (·.ev ts) = some z → ∃ v, x.map a.eval = some v ∧ z.R w A β v) ∧ (y.map (·.ev ts) = none → x.map a.eval = none) := by
  unfold compOpt at h
  split at h
  · cases h; exact ⟨fun z hz => by simp at hz, fun _ => rfl⟩
  · split at h
    · rename_i x' a' ha
      cases h
      exact ⟨fun z hz => by simp at hz; subst hz; exact ⟨_, rfl, opd_R ht ha⟩, fun hn => by simp at hn⟩
    · cases h

theorem rowOf_pos {P : Program} {e : TypeId} {r : Row} (h : rowOf P e = some r) : r.size = P.cellsOf e ∧ 0 < r.size := by
  unfold rowOf at h
  split at h
  · rename_i ps hps
    split at h
    · rename_i hc
      cases h
      have : ∀ l : List Prim, (Row.ofList l).size = l.length := by
        intro l
        induction l with
        | nil => rfl
        | cons p l ih => simp [Row.ofList, Row.size, ih]
      rw [this]
      exact ⟨hc.1, hc.2⟩
    · cases h
  · cases h

theorem two_R {w : World} {A : Nat → Prop} {β : Loc} {ts : List SV} {a : Act} (ht : TR w A β ts a) {as : Array Operand} {x y : Opd} (h : two as = some (x, y)) : ∃ p q, as = #[p, q] ∧ (x.ev ts).R w A β (a.eval p) ∧ (y.ev ts).R w A β (a.eval q) := by
  unfold two at h
  split at h
  · rename_i p q hl
    split at h
    · rename_i a' b' ha hb
      cases h
      exact ⟨p, q, by rw [← Array.toArray_toList (xs := as), hl], opd_R ht ha, opd_R ht hb⟩
    · cases h
  · cases h

theorem of_ok {m : Mem} {r : Row} (h0 : 0 < r.size) {x : SV} {y : r.T} (h : r.of m x.cellsOf = some y) : x.cellsOk = true := by
  cases x <;> try rfl
  · match r, h0, y, h with
    | .cons p .nil, _, y, h => rw [show SV.dead.cellsOf = [.dead] from rfl, Row.of_one] at h; cases p <;> simp [Prim.of] at h
    | .cons p (.cons q r), _, y, h => rw [show SV.dead.cellsOf = [.dead] from rfl, Row.of_two1] at h; cases h
  · rename_i vs
    match r, h0, y, h with
    | .cons p .nil, _, y, h => rw [show (SV.tup vs).cellsOf = [.tup vs] from rfl, Row.of_one] at h; cases p <;> simp [Prim.of] at h
    | .cons p (.cons q r), _, y, h => rw [show (SV.tup vs).cellsOf = [.tup vs] from rfl, Row.of_two1] at h; cases h

section
variable {P : Program} {w : World} {Z : Nat → Prop} {β : Loc} {m : Mem} {ts : List SV} {a : Act} {o : Oper}

/-- An operation whose value is a plain run's. -/
theorem ok_run (hm : MR w Z β m) {s : Sem Value} (ho : execOp a.eval o = (do pure (.value (← s)))) {x : SV} {fp : List Nat} (h : ∃ u, s.run P w = .ok u w ∧ x.R w (β.away Z) β u) : OpOK P o a w (PostE Z w β m ⟨x, [], fp⟩) := by
  obtain ⟨u, hu, hr⟩ := h
  refine OpOK.value (v := u) (w' := w) ?_ (PostE.same hm hr)
  rw [ho, Sem.run_bind, hu]
  rfl

theorem ok_now (hm : MR w Z β m) {u : Value} (ho : execOp a.eval o = pure (.value u)) {x : SV} {fp : List Nat} (hr : x.R w (β.away Z) β u) : OpOK P o a w (PostE Z w β m ⟨x, [], fp⟩) :=
  OpOK.value (v := u) (w' := w) (by rw [ho]; rfl) (PostE.same hm hr)

def O2.isCall : O2 → Bool
  | .call _ _ | .callv _ _ => true
  | _ => false

theorem someV_some {v : Option SV} {e : Eff} (h : someV v some = some e) : ∃ x, v = some x ∧ e = ⟨x, [], []⟩ := by
  cases v with
  | none => cases h
  | some x => cases h; exact ⟨x, rfl, rfl⟩

theorem len_some {v : Option SV} {fp : List Nat} {e : Eff} (h : (match v with | some v => some (⟨v, [], fp⟩ : Eff) | none => none) = some e) : ∃ x, v = some x ∧ e = ⟨x, [], fp⟩ := by
  cases v with
  | none => cases h
  | some x => cases h; exact ⟨x, rfl, rfl⟩

theorem someE_some {v : Option Eff} {e : Eff} (h : someE v some = some e) : v = some e := by
  cases v with
  | none => cases h
  | some x => exact h

theorem map_some' {α γ : Type} {f : α → γ} {x : Option α} {y : γ} (h : x.map f = some y) : ∃ z, x = some z ∧ y = f z := by
  cases x with
  | none => cases h
  | some z => cases h; exact ⟨z, rfl, rfl⟩

theorem min2_run (k k' : IntKind) (x y : Int) : (Builtin.min_ #[] 0 #[.int k x, .int k' y]).run P w = .ok (.int k (if y < x then y else x)) w := by rfl
theorem max2_run (k k' : IntKind) (x y : Int) : (Builtin.max_ #[] 0 #[.int k x, .int k' y]).run P w = .ok (.int k (if y > x then y else x)) w := by rfl

theorem op_sound {cb : CB} {byRef : FuncId → CC} {op : O2} (hc : compOp P o = some op) (hT : TR w (β.away Z) β ts a) (hm : MR w Z β m) {ef : Eff} (h : opx cb byRef (o.dst.getD 0) op ts m some = some ef) (hcall : op.isCall = false) :
    OpOK P o a w (PostE Z w β m ef) := by
  unfold compOp at hc
  split at hc
  · -- move
    rename_i x ho
    obtain ⟨y, hy, rfl⟩ := map_some' hc
    cases h
    exact ok_now hm (by simp only [execOp, ho]) (opd_R hT hy)
  · rename_i x ho
    obtain ⟨y, hy, rfl⟩ := map_some' hc
    cases h
    exact ok_now hm (by simp only [execOp, ho]) (opd_R hT hy)
  · -- pick
    rename_i c x y ho
    split at hc
    · rename_i c' x' y' hc' hx' hy'
      cases hc
      simp only [opx] at h
      have hcr := opd_R hT hc'
      split at h
      · rename_i t ht
        rw [ht] at hcr
        simp only [SV.R] at hcr
        refine (?_ : OpOK P o a w (PostE Z w β m ef))
        cases t with
        | true =>
          simp only [pickx] at h
          cases h
          exact OpOK.value (v := a.eval x) (w' := w) (by simp [execOp, ho, hcr, asBool]) (PostE.same hm (opd_R hT hx'))
        | false =>
          simp only [pickx] at h
          cases h
          exact OpOK.value (v := a.eval y) (w' := w) (by simp [execOp, ho, hcr, asBool]) (PostE.same hm (opd_R hT hy'))
      · cases h
    · cases hc
  · -- alloc
    rename_i e ho
    obtain ⟨zs, hz, rfl⟩ := map_some' hc
    simp only [opx] at h
    split at h
    · rename_i hf
      cases h
      obtain ⟨i, z, hi, hzz, hs, hcs⟩ := zeroT_sound hz
      obtain ⟨hl, h1⟩ := constSVs_R (w := w) (A := β.away Z) (β := β) hcs
      refine OpOK.value (v := .pointer (some ⟨w.heap.size, 0, none⟩)) (w' := w.alloc (.cells z.cells e)) ?_ (box_sound hm (by simpa using hf) hl h1 e _)
      simp [execOp, ho, Instr.alloc, zeroValue, typeInfo, hi, hzz, newVar_run]
    · cases h
  · -- box
    rename_i e x ho
    split at hc
    · rename_i i x' hi hx'
      cases hc
      simp only [opx] at h
      split at h
      · rename_i hcond
        obtain ⟨hn, hok, hf⟩ := hcond
        cases h
        obtain ⟨hl, h1⟩ := cellsOf_R (opd_R hT hx') hok
        refine OpOK.value (v := .pointer (some ⟨w.heap.size, 0, none⟩)) (w' := w.alloc (.cells (a.eval x).cells e)) ?_ (box_sound hm (by simpa using hf) hl h1 e _)
        simp [execOp, ho, Instr.box, newVar_run]
      · cases h
    · cases hc
  · -- build
    rename_i t parts ho
    split at hc
    · rename_i zs pl hz hpl
      split at hc
      · rename_i ps hps
        cases hc
        simp only [opx] at h
        split at h
        · rename_i cs hcs
          cases h
          refine ok_run hm (s := Instr.build t (parts.map fun (i, x) => (i, a.eval x))) (by simp only [execOp, ho]) (build_sound hz hpl hcs (by simp [allSome_len hps]) fun j p q hp hq => ?_)
          simp only [List.getElem?_map, Option.map_eq_some_iff, Array.toList_map] at hp hq
          obtain ⟨p', hp', rfl⟩ := hp
          obtain ⟨q', hq', rfl⟩ := hq
          obtain ⟨y, hy, hf⟩ := allSome_get hps j q' hq'
          rw [hp'] at hy
          cases hy
          split at hf
          · rename_i q1 x1 hq1 hx1
            cases hf
            exact ⟨hq1, opd_R hT hx1⟩
          · cases hf
        · cases h
      · cases hc
    · cases hc
  · -- buildSlice
    rename_i t len parts ho
    split at hc
    · rename_i e he
      split at hc
      · rename_i r ps i hr hps hi
        split at hc
        · rename_i hcond
          obtain ⟨hix, hsm, hzz⟩ := hcond
          cases hc
          have h' := someE_some h
          obtain ⟨hrs, h0⟩ := rowOf_pos hr
          rw [cellsOf_info hi] at hrs
          obtain ⟨z, hz, hzs⟩ : ∃ z, i.zero = some z ∧ z.cells.size = i.size := by
            cases hzi : i.zero with
            | none => rw [hzi] at hzz; cases hzz
            | some z => rw [hzi] at hzz; exact ⟨z, rfl, by simpa using hzz⟩
          have hpl : ps.length = len := by have := congrArg List.length hix; simpa using this
          have hpal : parts.toList.length = len := by rw [← hpl, allSome_len hps]
          have hpe : (parts.map fun (p : Nat × Operand) => (p.1, a.eval p.2)) = ((List.range (parts.toList.map fun p => a.eval p.2).length).zip (parts.toList.map fun p => a.eval p.2)).toArray := by
            apply Array.ext'
            apply List.ext_getElem?
            intro j
            simp only [Array.toList_map, List.getElem?_map, List.length_map, hpal, List.getElem?_zip_eq_some, List.toList_toArray]
            cases hj : parts.toList[j]? with
            | none =>
              have : ((List.range len).zip (parts.toList.map fun p => a.eval p.2))[j]? = none := by
                rw [List.getElem?_eq_none_iff] at hj ⊢
                simp only [List.length_zip, List.length_range, List.length_map]
                omega
              rw [this]; rfl
            | some p =>
              obtain ⟨y, hy, hf⟩ := allSome_get hps j p hj
              have hjl : j < len := by rw [← hpal]; exact (List.getElem?_eq_some_iff.1 hj).1
              have h1 : (ps.map (·.1))[j]? = some j := by rw [hix]; simp [hjl]
              rw [List.getElem?_map, hy] at h1
              have hp1 : p.1 = j := by
                split at hf
                · cases hf; simpa using h1
                · cases hf
              have : ((List.range len).zip (parts.toList.map fun p => a.eval p.2))[j]? = some (j, a.eval p.2) := by
                rw [List.getElem?_zip_eq_some]
                exact ⟨by simp [hjl], by simp [hj]⟩
              rw [this]
              simp [hp1]
          have hRL : SV.RL w (β.away Z) β ((ps.map fun p => (p.1, p.2.ev ts)).map (·.2)) (parts.toList.map fun p => a.eval p.2) := by
            refine SV.RL_of_get _ _ (by simp [allSome_len hps]) fun j x v hx hv => ?_
            simp only [List.getElem?_map, Option.map_eq_some_iff, List.map_map] at hx hv
            obtain ⟨p, hp, rfl⟩ := hx
            obtain ⟨q, hq, rfl⟩ := hv
            obtain ⟨y, hy, hf⟩ := allSome_get hps j q hq
            rw [hp] at hy
            cases hy
            split at hf
            · rename_i x1 hx1
              cases hf
              exact opd_R hT hx1
            · cases hf
          obtain ⟨ys, hyl, hys, hfr, hef⟩ := litx_gather _ _ _ _ h'
          have hok : ∀ p ∈ ps.map (fun p => (p.1, p.2.ev ts)), p.2.cellsOk = true := by
            intro p hp
            obtain ⟨j, hj⟩ := List.getElem?_of_mem hp
            have hjl : j < ys.length := by rw [hyl]; exact (List.getElem?_eq_some_iff.1 hj).1
            exact of_ok h0 (hys j p _ hj (List.getElem?_eq_getElem hjl))
          obtain ⟨hpost, hsz⟩ := lit_sound (P := P) hm h' he hi hz hzs hrs h0 hRL hok (by simp [hpl]; exact hsm)
          refine OpOK.value ?_ hpost
          have hrun := buildSlice_run (w := w) he hi hz hzs hsz (by simp [hpal]; rw [← hrs]; exact hsm)
          rw [← hpe] at hrun
          simp only [execOp, ho, Sem.run_bind]
          have hlv : (parts.toList.map fun p => a.eval p.2).length = len := by simpa using hpal
          rw [hlv] at hrun
          rw [hrun, hlv]
          rfl
        · cases hc
      · cases hc
    · cases hc
  · -- load
    rename_i t x ho
    split at hc
    · rename_i n x' hn hx'
      cases hc
      have h' := someE_some h
      obtain ⟨hu, u, hrun, hr⟩ := loadx_sound (P := P) hm (opd_R hT hx') h' hn
      refine OpOK.value (v := u) (w' := w) (by simp [execOp, ho, hrun]) ⟨β, Step.refl w β, ?_, hr⟩
      rw [hu]
      exact hm
    · cases hc
  · -- store
    rename_i t x v ho
    split at hc
    · rename_i i x' v' hi hx' hv'
      cases hc
      have h' := someE_some h
      have hxR := opd_R hT hx'
      have hvR := opd_R hT hv'
      unfold storex at h'
      split at h'
      · rename_i k j fo hk
        rw [hk] at hxR
        split at h'
        · rename_i hcond
          obtain ⟨hn, hok⟩ := hcond
          split at h'
          · rename_i cs hg
            split at h'
            · rename_i hfit
              cases h'
              obtain ⟨w', hrun, hpost⟩ := store_box (P := P) hm hg hxR hvR hok hn hfit hi rfl _
              exact OpOK.skip (w' := w') (by simp [execOp, ho, hrun]) hpost
            · cases h'
          · rename_i e r xs hg
            split at h'
            · rename_i hfit
              split at h'
              · rename_i y hy
                cases h'
                obtain ⟨w', hrun, hpost⟩ := store_row (P := P) hm hg hxR hvR hok hn hfit hy hi rfl _
                exact OpOK.skip (w' := w') (by simp [execOp, ho, hrun]) hpost
              · cases h'
            · cases h'
          · cases h'
        · cases h'
      · cases h'
    · cases hc
  · -- nilCheck
    rename_i x ho
    obtain ⟨y, hy, rfl⟩ := map_some' hc
    have hR := opd_R hT hy
    simp only [opx] at h
    split at h
    · rename_i k i fo hk
      cases h
      rw [hk] at hR
      have hR' := hR
      simp only [SV.R] at hR
      obtain ⟨l, _, ha⟩ := hR
      obtain ⟨ad, hv⟩ := addr_some ha
      exact OpOK.value (v := a.eval x) (w' := w) (by simp [execOp, ho, hv]) (PostE.same hm hR')
    · rename_i f c hk
      cases h
      rw [hk] at hR
      have hR' := hR
      simp only [SV.R] at hR
      obtain ⟨vs, hv, _⟩ := hR
      exact OpOK.value (v := a.eval x) (w' := w) (by simp [execOp, ho, hv]) (PostE.same hm hR')
    · cases h
  · -- binOp
    rename_i op t x y ty ho
    split at hc
    · rename_i x' y' hx' hy'
      split at hc
      · split at hc
        · rename_i ks hks
          cases hc
          obtain ⟨v, hv, rfl⟩ := someV_some h
          exact ok_run hm (s := do eqGuard .eql t x y (a.eval x) (a.eval y); binOp .eql t (a.eval x) (a.eval y)) (by simp only [execOp, ho]) (eqsx_sound hks (.inl ⟨rfl, rfl⟩) hv (opd_R hT hx') (opd_R hT hy'))
        · rename_i ks hks
          cases hc
          obtain ⟨v, hv, rfl⟩ := someV_some h
          exact ok_run hm (s := do eqGuard .neq t x y (a.eval x) (a.eval y); binOp .neq t (a.eval x) (a.eval y)) (by simp only [execOp, ho]) (eqsx_sound hks (.inr ⟨rfl, rfl⟩) hv (opd_R hT hx') (opd_R hT hy'))
        · cases hc
      · cases hc
        simp only [opx] at h
        rw [binx_nat] at h
        obtain ⟨v, hv, hk⟩ := Option.bind_eq_some_iff.1 h
        cases hk
        exact ok_run hm (s := do eqGuard op t x y (a.eval x) (a.eval y); binOp op t (a.eval x) (a.eval y)) (by simp only [execOp, ho]) (binx_sound hv (opd_R hT hx') (opd_R hT hy'))
    · cases hc
  · -- unOp
    rename_i op t x ho
    obtain ⟨y, hy, rfl⟩ := map_some' hc
    obtain ⟨v, hv, rfl⟩ := someV_some h
    exact ok_run hm (s := Op.unary op (a.eval x)) (by simp only [execOp, ho]) (unx_sound hv (opd_R hT hy))
  · -- convert
    rename_i src dst x ho
    split at hc
    · rename_i k k' x' hs hd hx'
      cases hc
      simp only [opx] at h
      have hR := opd_R hT hx'
      split at h
      · rename_i k2 n hk
        cases h
        rw [hk] at hR
        simp only [SV.R] at hR
        exact ok_run hm (s := convert src dst (a.eval x)) (by simp only [execOp, ho]) ⟨.int k' (k'.wrap n), by simp [convert, run_underlying hs, run_underlying hd, hR, Conv.intToInt], rfl⟩
      · cases h
    · rename_i x' hs hd hx'
      cases hc
      simp only [opx] at h
      have hR := opd_R hT hx'
      split at h
      · rename_i s hk
        cases h
        rw [hk] at hR
        simp only [SV.R] at hR
        exact ok_run hm (s := convert src dst (a.eval x)) (by simp only [execOp, ho]) ⟨.string s, by simp [convert, run_underlying hs, run_underlying hd, hR], rfl⟩
      · cases h
    · rename_i e x' hs hd hx'
      split at hc
      · rename_i he
        cases hc
        simp only [opx] at h
        split at h
        · rename_i xs hxs
          cases h
          exact ok_run hm (s := convert src dst (a.eval x)) (by simp only [execOp, ho]) ⟨.string (strOfNums xs), b2s_sound hm hxs (opd_R hT hx') hs he hd, rfl⟩
        · cases h
      · cases hc
    · cases hc
  · -- slice
    rename_i t x lo hi ho
    split at hc
    · rename_i x' ht hx'
      split at hc
      · rename_i l' h' hl' hh'
        cases hc
        simp only [opx] at h
        rw [cutx_nat] at h
        obtain ⟨v, hv, hk⟩ := Option.bind_eq_some_iff.1 h
        cases hk
        obtain ⟨h1, h2⟩ := compOpt_R hT hl'
        obtain ⟨h3, h4⟩ := compOpt_R hT hh'
        exact ok_run hm (s := Instr.sliceAt t (a.eval x) (lo.map a.eval) (hi.map a.eval) ((none : Option Operand).map a.eval)) (by simp only [execOp, ho]) (cut_str hv ht (res_R hm (opd_R hT hx')) h1 h2 h3 h4)
      · cases hc
    · rename_i e x' ht hx'
      split at hc
      · rename_i l' h' i hl' hh' hi'
        cases hc
        simp only [opx] at h
        rw [cutx_nat] at h
        obtain ⟨v, hv, hk⟩ := Option.bind_eq_some_iff.1 h
        cases hk
        obtain ⟨h1, h2⟩ := compOpt_R hT hl'
        obtain ⟨h3, h4⟩ := compOpt_R hT hh'
        exact ok_run hm (s := Instr.sliceAt t (a.eval x) (lo.map a.eval) (hi.map a.eval) ((none : Option Operand).map a.eval)) (by simp only [execOp, ho]) (cut_slc hm hv ht hi' rfl (res_R hm (opd_R hT hx')) h1 h2 h3 h4)
      · cases hc
    · cases hc
  · -- fieldAddr
    rename_i s x f ho
    split at hc
    · rename_i fd x' hf hx'
      split at hc
      · cases hc
      · rename_i hne
        cases hc
        simp only [opx] at h
        have hR := opd_R hT hx'
        unfold fieldOf at hf
        split at hf
        · rename_i fs hfs
          have hrun : ∀ ad, a.eval x = .pointer (some ad) → (Instr.fieldAt s (a.eval x) f).run P w = .ok (.pointer (some (ad.add fd.offset))) w := by
            intro ad hv
            cases hi : P.info? fd.type with
            | none => simp [Program.cellsOf, hi] at hne
            | some i =>
              rw [cellsOf_info hi] at hne
              simp [Instr.fieldAt, run_underlying hfs, hf, hv, Instr.sureAddr, fieldPlace, sizeOf_run hi, hne]
          split at h
          · rename_i k i fo hk
            cases h
            rw [hk] at hR
            simp only [SV.R] at hR
            obtain ⟨l, hl, ha⟩ := hR
            obtain ⟨ad, hv⟩ := addr_some ha
            refine ok_run hm (s := Instr.fieldAt s (a.eval x) f) (by simp only [execOp, ho]) ⟨_, hrun ad hv, ?_⟩
            simp only [SV.R]
            refine ⟨l, hl, ?_⟩
            cases l with
            | box b =>
              simp only [LK.addr] at ha ⊢
              rw [hv] at ha
              cases ha
              rw [add_mk]
              simp [Nat.add_assoc]
            | row ad' cap n sz e =>
              cases ad' with
              | none => exact ha.elim
              | some g =>
                obtain ⟨h1, h2⟩ := ha
                rw [hv] at h2
                cases h2
                refine ⟨h1, ?_⟩
                rw [add_mk]
                simp [Nat.add_assoc]
            | froz ad' cap n sz e =>
              cases ad' with
              | none => exact ha.elim
              | some g =>
                obtain ⟨h1, h2⟩ := ha
                rw [hv] at h2
                cases h2
                refine ⟨h1, ?_⟩
                rw [add_mk]
                simp [Nat.add_assoc]
            | gone => exact ⟨_, rfl⟩
          · rename_i e r xs i fo hk
            cases h
            rw [hk] at hR
            simp only [SV.R] at hR
            obtain ⟨hi, ad, cs, hv, hA, hlt, hl, hcc, hRR⟩ := hR
            refine ok_run hm (s := Instr.fieldAt s (a.eval x) f) (by simp only [execOp, ho]) ⟨_, hrun _ hv, ?_⟩
            simp only [SV.R]
            exact ⟨hi, ad, cs, by rw [add_add], hA, hlt, hl, hcc, hRR⟩
          · cases h
        · cases hf
    · cases hc
  · -- field
    rename_i s x f ho
    split at hc
    · rename_i fd x' hf hx'
      split at hc
      · rename_i n hn
        cases hc
        simp only [opx] at h
        have hR := opd_R hT hx'
        unfold fieldOf at hf
        split at hf
        · rename_i fs hfs
          split at h
          · rename_i cs hk
            obtain ⟨v, hv, rfl⟩ := someV_some h
            rw [hk] at hR
            simp only [SV.R] at hR
            obtain ⟨vs, hvs, hl, h1⟩ := hR
            obtain ⟨u, hu, hr⟩ := SV.RL_get _ _ hl _ _ hv
            exact ok_run hm (s := Instr.field s (a.eval x) f) (by simp only [execOp, ho]) ⟨u, by simp [Instr.field, run_underlying hfs, hf, hvs, asAgg, part, isAggT_run (sizeT_none hn), hu], hr⟩
          · rename_i cs n hk
            split at h
            · rename_i hfit
              cases h
              rw [hk] at hR
              simp only [SV.R] at hR
              obtain ⟨vs, hvs, hl, h1⟩ := hR
              obtain ⟨i, hi, hs, ha⟩ := sizeT_some hn
              refine ok_run hm (s := Instr.field s (a.eval x) f) (by simp only [execOp, ho]) ⟨.agg ((vs.drop fd.offset).take n).toArray, ?_, ?_⟩
              · simp [Instr.field, run_underlying hfs, hf, hvs, asAgg, part, isAggT_run ha, sizeOf_run hi, hs]
              · simp only [SV.R]
                exact ⟨_, rfl, SV.RL_take _ _ _ (SV.RL_drop _ _ _ hl), fun u hu => h1 u (List.mem_of_mem_drop (List.mem_of_mem_take hu))⟩
            · cases h
          · cases h
        · cases hf
      · cases hc
    · cases hc
  · -- indexAddr
    rename_i t x i ho
    split at hc
    · rename_i e x' i' ht hx' hi'
      split at hc
      · rename_i ti hti
        cases hc
        simp only [opx] at h
        rw [idxx_nat] at h
        obtain ⟨v, hv, hk⟩ := Option.bind_eq_some_iff.1 h
        cases hk
        exact ok_run hm (s := Instr.indexAt t (a.eval x) (a.eval i)) (by simp only [execOp, ho]) (idxx_sound hm hv ht hti rfl (res_R hm (opd_R hT hx')) (opd_R hT hi'))
      · cases hc
    · cases hc
  · -- index
    rename_i t x i ho
    split at hc
    · rename_i x' i' ht hx' hi'
      cases hc
      simp only [opx] at h
      rw [ivx_nat] at h
      obtain ⟨v, hv, hk⟩ := Option.bind_eq_some_iff.1 h
      cases hk
      exact ok_run hm (s := Instr.index t (a.eval x) (a.eval i)) (by simp only [execOp, ho]) (ivx_sound hv (opd_R hT hx') (opd_R hT hi') ht)
    · cases hc
  · -- extract
    rename_i x i ho
    obtain ⟨y, hy, rfl⟩ := map_some' hc
    have hR := opd_R hT hy
    simp only [opx] at h
    split at h
    · rename_i vs hk
      obtain ⟨v, hv, rfl⟩ := someV_some h
      rw [hk] at hR
      simp only [SV.R] at hR
      obtain ⟨us, hu, hl⟩ := hR
      obtain ⟨u, hu', hr⟩ := SV.RL_get _ _ hl _ _ hv
      exact ok_run hm (s := Instr.extract (a.eval x) i) (by simp only [execOp, ho]) ⟨u, by simp [Instr.extract, hu, hu'], hr⟩
    · cases h
  · -- call
    rename_i c ho
    unfold compCall at hc
    split at hc
    · split at hc
      · cases hc; cases hcall
      · cases hc
    · split at hc
      · cases hc; cases hcall
      · cases hc
    · -- len
      rename_i hcal
      split at hc
      · rename_i x t hax hat
        have hargs : c.args = #[x] := by rw [← Array.toArray_toList (xs := c.args), hax]
        have hty : c.argTypes = #[t] := by rw [← Array.toArray_toList (xs := c.argTypes), hat]
        have hex : execOp a.eval o = (do pure (.value (← Builtin.len_ #[t] o.type #[a.eval x]))) := by
          simp only [execOp, ho, resolve, hcal, hargs, hty, pure_bind, invoke, builtin, List.map_toArray, List.map_cons, List.map_nil]
        split at hc
        · rename_i x' hx' ht
          cases hc
          simp only [opx] at h
          obtain ⟨v, hv, rfl⟩ := len_some h
          exact ok_run hm hex (lenx_str hv (res_R hm (opd_R hT hx')) ht o.type)
        · rename_i x' e hx' ht
          cases hc
          simp only [opx] at h
          obtain ⟨v, hv, rfl⟩ := len_some h
          exact ok_run hm hex (lenx_slc hv (res_R hm (opd_R hT hx')) ht o.type)
        · cases hc
      · cases hc
    · -- cap
      rename_i hcal
      split at hc
      · rename_i x t hax hat
        have hargs : c.args = #[x] := by rw [← Array.toArray_toList (xs := c.args), hax]
        have hty : c.argTypes = #[t] := by rw [← Array.toArray_toList (xs := c.argTypes), hat]
        have hex : execOp a.eval o = (do pure (.value (← Builtin.cap_ #[t] o.type #[a.eval x]))) := by
          simp only [execOp, ho, resolve, hcal, hargs, hty, pure_bind, invoke, builtin, List.map_toArray, List.map_cons, List.map_nil]
        split at hc
        · rename_i x' e hx' ht
          cases hc
          simp only [opx] at h
          obtain ⟨v, hv, rfl⟩ := len_some h
          exact ok_run hm hex (lenx_cap hv (res_R hm (opd_R hT hx')) ht o.type)
        · cases hc
      · cases hc
    · -- append
      rename_i hcal
      split at hc
      · rename_i s x t t' has hat
        split at hc
        · rename_i htt
          subst htt
          obtain ⟨p, q, hargs, hs, hx⟩ := two_R hT has
          have hty : c.argTypes = #[t, t] := by rw [← Array.toArray_toList (xs := c.argTypes), hat]
          split at hc
          · rename_i e he
            split at hc
            · rename_i r i hr hi
              split at hc
              · rename_i z hz
                split at hc
                · rename_i hcond
                  cases hc
                  simp only [opx] at h
                  obtain ⟨hrs, h0⟩ := rowOf_pos hr
                  rw [cellsOf_info hi] at hrs
                  obtain ⟨v', w', hrun, hpost⟩ := appx_sound (P := P) (ty := o.type) hm h he hi hz hcond.1 hrs h0 rfl hcond.2 hs hx
                  refine OpOK.value (v := v') (w' := w') ?_ hpost
                  have hex : execOp a.eval o = (do pure (.value (← Builtin.append_ #[t, t] o.type #[a.eval p, a.eval q]))) := by
                    simp only [execOp, ho, resolve, hcal, hargs, hty, pure_bind, invoke, builtin, List.map_toArray, List.map_cons, List.map_nil]
                  rw [hex, Sem.run_bind, hrun]
                  rfl
                · cases hc
              · cases hc
            · cases hc
          · cases hc
        · split at hc
          · rename_i e he hu
            split at hc
            · rename_i r by_ hzt
              cases hc
              obtain ⟨p, q, hargs, hs, hx⟩ := two_R hT has
              have hty : c.argTypes = #[t, t'] := by rw [← Array.toArray_toList (xs := c.argTypes), hat]
              obtain ⟨hr, i, z, hi, hz, hzs, hb0, hzr, hby⟩ := zerosT_sound hzt
              simp only [opx] at h
              obtain ⟨hrs, h0⟩ := rowOf_pos hr
              rw [cellsOf_info hi] at hrs
              obtain ⟨v', w', hrun, hpost⟩ := growx_sound (P := P) (ty := o.type) hm h he hu hi hz hzs hrs h0 hby hb0 hzr hs hx
              refine OpOK.value (v := v') (w' := w') ?_ hpost
              have hex : execOp a.eval o = (do pure (.value (← Builtin.append_ #[t, t'] o.type #[a.eval p, a.eval q]))) := by
                simp only [execOp, ho, resolve, hcal, hargs, hty, pure_bind, invoke, builtin, List.map_toArray, List.map_cons, List.map_nil]
              rw [hex, Sem.run_bind, hrun]
              rfl
            · cases hc
          · cases hc
      · cases hc
    · -- min
      rename_i hcal
      split at hc
      · rename_i x y hxy
        cases hc
        obtain ⟨p, q, hargs, hx, hy⟩ := two_R hT hxy
        simp only [opx] at h
        split at h
        · rename_i k n k' n' hk hk'
          cases h
          rw [hk] at hx
          rw [hk'] at hy
          simp only [SV.R] at hx hy
          refine OpOK.value (v := .int k (if n' < n then n' else n)) (w' := w) ?_ (PostE.same hm rfl)
          simp only [execOp, ho, resolve, hcal, hargs]
          simp [hx, hy, invoke, builtin, Builtin.min_, Builtin.min2]
        · cases h
      · cases hc
    · -- max
      rename_i hcal
      split at hc
      · rename_i x y hxy
        cases hc
        obtain ⟨p, q, hargs, hx, hy⟩ := two_R hT hxy
        simp only [opx] at h
        split at h
        · rename_i k n k' n' hk hk'
          cases h
          rw [hk] at hx
          rw [hk'] at hy
          simp only [SV.R] at hx hy
          refine OpOK.value (v := .int k (if n' > n then n' else n)) (w' := w) ?_ (PostE.same hm rfl)
          simp only [execOp, ho, resolve, hcal, hargs]
          simp [hx, hy, invoke, builtin, Builtin.max_, Builtin.max2]
        · cases h
      · cases hc
    · cases hc
  · -- makeFunc
    rename_i f first cap ho
    split at hc
    · rename_i hf
      obtain ⟨ys, hys, rfl⟩ := map_some' hc
      cases h
      refine ok_run hm (s := Instr.makeFunc (.func f) (first.map a.eval) (cap.map a.eval)) (by simp only [execOp, ho]) ⟨_, rfl, ?_⟩
      simp only [SV.R]
      refine ⟨cap.toList.map a.eval, ?_, opds_R hT hys⟩
      rw [Array.isEmpty_iff] at hf
      subst hf
      have : cap.map a.eval = (cap.toList.map a.eval).toArray := by apply Array.ext'; simp
      rw [this]
      simp
    · cases hc
  · -- makeSlice
    rename_i t n c ho
    split at hc
    · rename_i e a' b' ht ha' hb'
      split at hc
      · rename_i r by_ hzt
        cases hc
        obtain ⟨hr, i, z, hi, hz, hzs, hb0, hzr, hby⟩ := zerosT_sound hzt
        simp only [opx] at h
        obtain ⟨hrs, h0⟩ := rowOf_pos hr
        rw [cellsOf_info hi] at hrs
        obtain ⟨v', w', hrun, hpost⟩ := mkx_sound (P := P) hm h ht hi hz hzs hrs h0 hby hb0 hzr (opd_R hT ha') (opd_R hT hb')
        refine OpOK.value (v := v') (w' := w') ?_ hpost
        have hex : execOp a.eval o = (do pure (.value (← Instr.makeSlice t (a.eval n) (a.eval c)))) := by
          simp only [execOp, ho]
        rw [hex, Sem.run_bind, hrun]
        rfl
      · cases hc
    · cases hc
  · cases hc
end
end Go.Proofs.Ytgfanlafbjbkaaa.S2
