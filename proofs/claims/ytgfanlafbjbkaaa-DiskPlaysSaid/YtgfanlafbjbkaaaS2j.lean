/-
  S2, tenth part: a store into an element of a row; append; a literal.
-/
import Derived.Test.YtgfanlafbjbkaaaS2i
set_option linter.unusedVariables false
set_option linter.unusedSimpArgs false
namespace Go.Proofs.Ytgfanlafbjbkaaa.S2
open Go

section
variable {P : Program} {w : World} {Z : Nat → Prop} {β : Loc} {m : Mem}

theorem castRow_self {r : Row} (h : r = r) (xs : List r.T) : castRow h xs = xs := rfl

theorem Prim.of_R {w : World} {A : Nat → Prop} : (p : Prim) → (x : SV) → (y : p.T) → (v : Value) → p.of [] x = some y → x.R w A β v → p.R w A y v
  | .int k, x, y, v, h, hx => by
    cases x with
    | int k' n =>
      simp only [Prim.of] at h
      split at h
      · rename_i hk
        subst hk
        cases h
        exact hx
      · cases h
    | _ => simp [Prim.of] at h
  | .bool, x, y, v, h, hx => by
    cases x with
    | bool b => simp only [Prim.of] at h; cases h; exact hx
    | _ => simp [Prim.of] at h
  | .str, x, y, v, h, hx => by
    cases x with
    | str b => simp only [Prim.of] at h; cases h; exact hx
    | _ => simp [Prim.of] at h
  | .slc e r, x, y, v, h, hx => by
    cases x with
    | ps e' r' xs =>
      simp only [Prim.of] at h
      split at h
      · rename_i hr
        split at h
        · rename_i he
          subst hr
          subst he
          cases h
          exact hx
        · cases h
      · cases h
    | nils =>
      simp only [Prim.of] at h
      cases h
      simp only [SV.R] at hx
      subst hx
      simp only [Prim.R]
      exact ⟨none, 0, rfl, ⟨Nat.le_refl _, fun _ => rfl⟩, fun j hj => absurd hj (by simp)⟩
    | pe =>
      simp only [Prim.of] at h
      cases h
      simp only [SV.R] at hx
      obtain ⟨a, cap, rfl⟩ := hx
      simp only [Prim.R]
      exact ⟨some a, cap, rfl, ⟨Nat.zero_le _, fun h => by cases h⟩, fun j hj => absurd hj (by simp)⟩
    | slw k => simp [Prim.of, Mem.get] at h
    | sl k off len => simp [Prim.of, Mem.get] at h
    | _ => simp [Prim.of] at h

theorem Row.of_nil {m : Mem} {x : SV} {l : List SV} : Row.nil.of m (x :: l) = none := rfl
theorem Row.of_one {m : Mem} {p : Prim} {x : SV} : (Row.cons p .nil).of m [x] = p.of m x := rfl
theorem Row.of_one0 {m : Mem} {p : Prim} : (Row.cons p .nil).of m [] = none := rfl
theorem Row.of_one2 {m : Mem} {p : Prim} {x y : SV} {l : List SV} : (Row.cons p .nil).of m (x :: y :: l) = none := rfl
theorem Row.of_two0 {m : Mem} {p q : Prim} {r : Row} : (Row.cons p (.cons q r)).of m [] = none := rfl
theorem Row.of_two1 {m : Mem} {p q : Prim} {r : Row} {x : SV} : (Row.cons p (.cons q r)).of m [x] = none := rfl
theorem Row.of_two {m : Mem} {p q : Prim} {r : Row} {x z : SV} {l : List SV} : (Row.cons p (.cons q r)).of m (x :: z :: l) = (match p.of m x, (Row.cons q r).of m (z :: l) with | some a, some b => some (a, b) | _, _ => none) := rfl

/-- What holds of the parts holds of the row. -/
theorem Row.of_gen {w : World} {A A' : Nat → Prop} {m : Mem} {S : SV → Prop} (hp : ∀ (p : Prim) (x : SV) (y : p.T) (v : Value), S x → p.of m x = some y → x.R w A β v → p.R w A' y v) :
    (r : Row) → (cs : List SV) → (y : r.T) → (vs : List Value) → (∀ x ∈ cs, S x) → r.of m cs = some y → SV.RL w A β cs vs → r.R w A' y vs
  | .nil, [], y, vs, _, h, hl => hl
  | .nil, x :: l, y, vs, _, h, hl => by rw [Row.of_nil] at h; cases h
  | .cons p .nil, [], y, vs, _, h, hl => by rw [Row.of_one0] at h; cases h
  | .cons p .nil, [x], y, vs, hS, h, hl => by
    rw [Row.of_one] at h
    simp only [SV.RL] at hl
    obtain ⟨v, vs', rfl, hx, rfl⟩ := hl
    simp only [Row.R]
    exact ⟨v, rfl, hp p x y v (hS x (by simp)) h hx⟩
  | .cons p .nil, x :: z :: l, y, vs, _, h, hl => by rw [Row.of_one2] at h; cases h
  | .cons p (.cons q r), [], y, vs, _, h, hl => by rw [Row.of_two0] at h; cases h
  | .cons p (.cons q r), [x], y, vs, _, h, hl => by rw [Row.of_two1] at h; cases h
  | .cons p (.cons q r), x :: z :: l, y, vs, hS, h, hl => by
    rw [Row.of_two] at h
    rw [SV.RL] at hl
    obtain ⟨v, vs', rfl, hx, hl⟩ := hl
    split at h
    · rename_i a b ha hb
      have hy : y = (a, b) := (Option.some.inj h).symm
      subst hy
      exact ⟨v, vs', rfl, hp p x a v (hS x (by simp)) ha hx, Row.of_gen hp (.cons q r) (z :: l) b vs' (fun x hx => hS x (List.mem_cons_of_mem _ hx)) hb hl⟩
    · cases h

theorem Row.of_R {w : World} {A : Nat → Prop} (r : Row) (cs : List SV) (y : r.T) (vs : List Value) (h : r.of [] cs = some y) (hl : SV.RL w A β cs vs) : r.R w A y vs :=
  Row.of_gen (m := []) (S := fun _ => True) (fun p x y v _ h hx => Prim.of_R p x y v h hx) r cs y vs (fun _ _ => trivial) h hl

theorem take_mid {cur news : List Value} {o n M : Nat} (hn : news.length = n) (ho : o + n ≤ M) (hM : M ≤ cur.length) :
    (cur.take o ++ news ++ cur.drop (o + n)).take M = (cur.take M).take o ++ news ++ (cur.take M).drop (o + n) := by
  apply List.ext_getElem?
  intro j
  simp only [List.getElem?_take, List.getElem?_append, List.getElem?_drop, List.length_append, List.length_take]
  by_cases h1 : j < o
  · simp [h1, show j < M by omega, show j < min o cur.length by omega, show j < min o (min M cur.length) by omega]
    simp [show j < o + news.length by omega, show min o cur.length = o by omega, show min o (min M cur.length) = o by omega]
  · have e1 : min o cur.length = o := by omega
    have e2 : min o (min M cur.length) = o := by omega
    simp only [e1, e2]
    by_cases h2 : j < o + n
    · simp [h1, show j < M by omega, show j < o + news.length by omega]
    · by_cases h3 : j < M
      · simp [h1, h3, show ¬ j < o + news.length by omega, show o + n + (j - (o + news.length)) < M by omega]
      · simp [h1, h3, show ¬ j < o + news.length by omega, show ¬ o + n + (j - (o + news.length)) < M by omega]

/-- Row i of cells that were written in the middle of row i. -/
theorem row_mid {cells news : List Value} {sz i fo n : Nat} (hn : news.length = n) (hf : fo + n ≤ sz) (hl : (i + 1) * sz ≤ cells.length) :
    (((cells.take (i * sz + fo) ++ news ++ cells.drop (i * sz + fo + n)).drop (i * sz)).take sz) = ((cells.drop (i * sz)).take sz).take fo ++ news ++ ((cells.drop (i * sz)).take sz).drop (fo + n) := by
  have hl' := hl
  rw [Nat.add_mul] at hl'
  apply List.ext_getElem?
  intro j
  simp only [List.getElem?_take, List.getElem?_append, List.getElem?_drop, List.length_append, List.length_take, List.length_drop]
  have e1 : min (i * sz + fo) cells.length = i * sz + fo := by omega
  have e2 : min fo (min sz (cells.length - i * sz)) = fo := by omega
  simp only [e1, e2]
  by_cases h1 : j < fo
  · simp [h1, show j < sz by omega, show i * sz + j < i * sz + fo by omega, show i * sz + j < i * sz + fo + news.length by omega, show j < fo + news.length by omega]
  · by_cases h2 : j < fo + n
    · simp [h1, show j < sz by omega, show ¬ i * sz + j < i * sz + fo by omega, show i * sz + j < i * sz + fo + news.length by omega, show j < fo + news.length by omega, show i * sz + j - (i * sz + fo) = j - fo by omega]
    · by_cases h3 : j < sz
      · simp [h1, h3, show ¬ i * sz + j < i * sz + fo by omega, show ¬ i * sz + j < i * sz + fo + news.length by omega, show ¬ j < fo + news.length by omega, show fo + n + (j - (fo + news.length)) < sz by omega]
        congr 1
        omega
      · simp [h1, h3, show ¬ j < fo + news.length by omega, show ¬ fo + n + (j - (fo + news.length)) < sz by omega]

/-- Another row stays. -/
theorem row_other {cells news : List Value} {sz i j fo n : Nat} (hn : news.length = n) (hf : fo + n ≤ sz) (hij : j ≠ i) (hi : (i + 1) * sz ≤ cells.length) (hj : (j + 1) * sz ≤ cells.length) :
    (((cells.take (i * sz + fo) ++ news ++ cells.drop (i * sz + fo + n)).drop (j * sz)).take sz) = ((cells.drop (j * sz)).take sz) := by
  have hi' := hi
  rw [Nat.add_mul] at hi'
  apply List.ext_getElem?
  intro q
  simp only [List.getElem?_take, List.getElem?_append, List.getElem?_drop, List.length_append, List.length_take, List.length_drop]
  have e1 : min (i * sz + fo) cells.length = i * sz + fo := by omega
  simp only [e1]
  by_cases hq : q < sz
  · rcases Nat.lt_or_gt_of_ne hij with h | h
    · have : (j + 1) * sz ≤ i * sz := Nat.mul_le_mul_right _ h
      rw [Nat.add_mul] at this
      simp [hq, show j * sz + q < i * sz + fo by omega, show j * sz + q < i * sz + fo + news.length by omega]
    · have : (i + 1) * sz ≤ j * sz := Nat.mul_le_mul_right _ h
      rw [Nat.add_mul] at this
      simp [hq, show ¬ j * sz + q < i * sz + fo by omega, show ¬ j * sz + q < i * sz + fo + news.length by omega]
      congr 1
      omega
  · simp [hq]

theorem store_row (hm : MR w Z β m) {k : Nat} {e : TypeId} {r : Row} {xs : List r.T} (hk : m.get k = some (.row e r xs)) {i fo n : Nat} {vp : Value} (hp : (SV.ptr k i fo).R w (β.away Z) β vp) {x : SV} {v : Value} (hx : x.R w (β.away Z) β v) (hok : x.cellsOk = true)
    (hlen : x.cellsOf.length = n) (hfit : fo + n ≤ r.size) {y : r.T} (hy : r.of [] ((r.svs (xs.getD i r.zero)).take fo ++ x.cellsOf ++ (r.svs (xs.getD i r.zero)).drop (fo + n)) = some y)
    {t : TypeId} {ti : TypeInfo} (hi : P.info? t = some ti) (hsz : ti.size = n) (fp : List Nat) :
    ∃ w', (Instr.storeAt t vp v).run P w = .ok () w' ∧ PostE Z w β m ⟨.dead, [(k, .row e r (xs.set i y))], fp⟩ undef w' := by
  simp only [SV.R] at hp
  obtain ⟨l, hl, ha⟩ := hp
  obtain ⟨l', hl', hob⟩ := hm.obs k _ hk
  rw [hl] at hl'; cases hl'
  cases l with
  | row ad cap N sz e' =>
    obtain ⟨rfl, rfl, h0, rfl, cells, ho, hrr⟩ := hob
    cases ad with
    | none => exact ha.elim
    | some g =>
      obtain ⟨hix, hv⟩ := ha
      subst hv
      obtain ⟨hcl, hc1⟩ := cellsOf_R hx hok
      have hvl : v.cells.toList.length = n := by rw [SV.RL_len _ _ hcl, hlen]
      have hcells := ho.1
      rcases ho.2 with ⟨hv, _⟩ | ⟨g', cap', cur, hv, hg0, hh, hnc, hcm, hcs, htake⟩
      · simp [atG] at hv
      · simp [atG] at hv
        obtain ⟨rfl, rfl⟩ := hv
        have hiN : (i + 1) * r.size ≤ xs.length * r.size := Nat.mul_le_mul_right _ hix
        have hiN' := hiN
        rw [Nat.add_mul] at hiN'
        have hNc : xs.length * r.size ≤ cap * r.size := Nat.mul_le_mul_right _ hnc
        have hcur : cur.toList.length = cap * r.size := by simpa using hcs
        have hrun := run_storeCells_at P g (i * r.size + fo) e' v.cells.toList 0 cur w hh (by simp at hvl ⊢; omega) hc1
        rw [Nat.add_zero, hvl] at hrun
        have hs : Step w (w.setRow g (cur.toList.take (i * r.size + fo) ++ v.cells.toList ++ cur.toList.drop (i * r.size + fo + n)).toArray) β β := setRow_step ⟨k, _, hl, rfl⟩
        refine ⟨w.setRow g (cur.toList.take (i * r.size + fo) ++ v.cells.toList ++ cur.toList.drop (i * r.size + fo + n)).toArray, ?_, β, hs, ?_, trivial⟩
        · simp only [Instr.storeAt, Instr.sureAddr, Sem.run_bind, Sem.run_pure, Result.andThen_ok, storeVar, sizeOf_run hi]
          rw [if_neg (by simp at hvl ⊢; omega), hrun]
        · refine hm.update (fun q => q = k) hs (fun q hq => ⟨rfl, by simp only [Mem.sets]; rw [Mem.get_set, if_neg hq]⟩) (fun q l' b' hq hl' hb' => setRow_other w g b' _ fun e => hq (hm.inj q k l' _ g hl' hl (e ▸ hb') rfl)) (fun q o hq hg' => ?_) (fun q l' hq hl' => ?_) (fun q l' b' hq hl' hb' => ?_)
          · subst hq
            simp only [Mem.sets] at hg'
            rw [Mem.get_set, if_pos rfl] at hg'
            cases hg'
            refine ⟨_, hl, rfl, rfl, h0, by simp, cells.take (i * r.size + fo) ++ v.cells.toList ++ cells.drop (i * r.size + fo + n), ⟨?_, .inr ⟨g, cap, _, rfl, hg0, setRow_heap w g cur _ e' (0, 0) hh, hnc, hcm, ?_, ?_⟩⟩, ?_⟩
            · rw [List.length_append, List.length_append, List.length_take, List.length_drop, hcells, hvl]
              omega
            · simp only [List.size_toArray, List.length_append, List.length_take, List.length_drop, hcur, hvl]
              omega
            · simp only
              rw [take_mid hvl (by omega) (by omega), htake]
            · intro j hj
              have hj' : j < xs.length := by simpa using hj
              have hjN : (j + 1) * r.size ≤ xs.length * r.size := Nat.mul_le_mul_right _ hj'
              by_cases hji : j = i
              · subst hji
                rw [row_mid hvl hfit (by rw [hcells]; exact hjN)]
                have e1 : (xs.set j y).get ⟨j, hj⟩ = y := by simp
                rw [e1]
                refine Row.of_R (β := β) r _ y _ hy ?_
                rw [getD_get xs j hj']
                have hold := Row.R_svs (β := β) r _ _ (hrr j hj')
                exact SV.RL_append _ _ _ _ (SV.RL_append _ _ _ _ (SV.RL_take _ _ _ (SV.RL_step hs.stays hs.le _ _ hold)) (SV.RL_step hs.stays hs.le _ _ hcl)) (SV.RL_drop _ _ _ (SV.RL_step hs.stays hs.le _ _ hold))
              · rw [row_other hvl hfit hji (by rw [hcells]; exact hiN) (by rw [hcells]; exact hjN)]
                have e1 : (xs.set i y).get ⟨j, hj⟩ = xs.get ⟨j, hj'⟩ := by
                  simp [List.getElem_set, Ne.symm hji]
                rw [e1]
                exact Row.R_stays hs.stays r _ _ (hrr j hj')
          · subst hq
            exact ⟨_, by simp only [Mem.sets]; rw [Mem.get_set, if_pos rfl]⟩
          · subst hq
            rw [hl] at hl'
            cases hl'
            exact ⟨hm.apart _ ⟨q, _, hl, hb'⟩, fun k' l'' h1' h2' => hm.inj k' q l'' _ b' h1' hl h2' hb'⟩
  | _ => exact hob.elim
end
end Go.Proofs.Ytgfanlafbjbkaaa.S2
