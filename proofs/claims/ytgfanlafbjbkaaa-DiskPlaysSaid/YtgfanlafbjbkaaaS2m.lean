/-
  S2, thirteenth part: literals of slices and structs.
-/
import Derived.Test.YtgfanlafbjbkaaaS2l
set_option linter.unusedVariables false
set_option linter.unusedSimpArgs false
namespace Go.Proofs.Ytgfanlafbjbkaaa.S2
open Go

/-- Cells laid one by one. -/
theorem fold_cells (off : Nat) : ∀ (vs : List Value) (k : Nat) (C : Array Value), off + k + vs.length ≤ C.size →
    ((vs.zipIdx k).foldl (fun (cs : Array Value) (p : Value × Nat) => cs.setIfInBounds (off + p.2) p.1) C).toList = C.toList.take (off + k) ++ vs ++ C.toList.drop (off + k + vs.length)
  | [], k, C, h => by simp
  | v :: vs, k, C, h => by
    simp only [List.length_cons] at h
    rw [List.zipIdx_cons, List.foldl_cons, fold_cells off vs (k + 1) _ (by simp; omega)]
    apply List.ext_getElem?
    intro q
    simp only [Array.toList_setIfInBounds, List.getElem?_append, List.getElem?_take, List.getElem?_drop, List.getElem?_set, List.length_append, List.length_take, List.length_set, Array.length_toList, List.length_cons]
    have e1 : min (off + (k + 1)) C.size = off + (k + 1) := by omega
    have e2 : min (off + k) C.size = off + k := by omega
    simp only [e1, e2]
    by_cases h1 : q < off + k
    · simp [h1, show q < off + (k + 1) by omega, show q < off + (k + 1) + vs.length by omega, show q < off + k + (vs.length + 1) by omega, show off + k ≠ q by omega]
    · by_cases h2 : q = off + k
      · subst h2
        simp [show off + k < off + (k + 1) by omega, show off + k < off + (k + 1) + vs.length by omega, show off + k < C.size by omega]
      · by_cases h3 : q < off + k + (vs.length + 1)
        · simp [h1, h3, show ¬ q < off + (k + 1) by omega, show q < off + (k + 1) + vs.length by omega, show q - (off + k) = (q - (off + (k + 1))) + 1 by omega]
        · simp [h1, h3, show ¬ q < off + (k + 1) by omega, show ¬ q < off + (k + 1) + vs.length by omega, show off + k ≠ off + (k + 1) + vs.length + (q - (off + (k + 1) + vs.length)) by omega]
          congr 1
          omega

theorem fold_cells' (off : Nat) (v : Array Value) (C : Array Value) (h : off + v.size ≤ C.size) :
    (v.zipIdx.foldl (fun cs (c, j) => cs.setIfInBounds (off + j) c) C).toList = C.toList.take off ++ v.toList ++ C.toList.drop (off + v.size) := by
  rw [← Array.foldl_toList, Array.toList_zipIdx]
  have := fold_cells off v.toList 0 C (by simpa using h)
  simpa using this

theorem fill_lit {sz : Nat} : ∀ (vals : List Value) (j : Nat) (C : Array Value), (∀ v ∈ vals, v.cells.size = sz) → (j + vals.length) * sz = C.size →
    ∃ C', Instr.fill (fun i => some (i * sz, sz)) C ((List.range' j vals.length).zip vals) = some C' ∧ C'.toList = C.toList.take (j * sz) ++ vals.flatMap (fun v => v.cells.toList)
  | [], j, C, _, h => ⟨C, rfl, by simp at h; rw [List.take_of_length_le (by simp; omega)]; simp⟩
  | v :: vals, j, C, hv, h => by
    have hvs : v.cells.size = sz := hv v (by simp)
    simp only [List.length_cons] at h
    have h2 : (j + 1) * sz ≤ C.size := by rw [← h]; exact Nat.mul_le_mul_right _ (by omega)
    rw [Nat.add_mul] at h2
    obtain ⟨C', h3, h4⟩ := fill_lit vals (j + 1) (v.cells.zipIdx.foldl (fun cs (c, i) => cs.setIfInBounds (j * sz + i) c) C) (fun u hu => hv u (by simp [hu])) (by
      have : (v.cells.zipIdx.foldl (fun cs (c, i) => cs.setIfInBounds (j * sz + i) c) C).size = C.size := by
        rw [← Array.length_toList, fold_cells' (j * sz) v.cells C (by omega)]
        simp; omega
      rw [this, ← h]
      congr 1
      omega)
    refine ⟨C', ?_, ?_⟩
    · simp only [List.length_cons, List.range'_succ, List.zip_cons_cons, Instr.fill]
      rw [if_neg (by simp; omega)]
      exact h3
    · rw [h4, fold_cells' (j * sz) v.cells C (by omega), List.flatMap_cons]
      have : (C.toList.take (j * sz) ++ v.cells.toList ++ C.toList.drop (j * sz + v.cells.size)).take ((j + 1) * sz) = C.toList.take (j * sz) ++ v.cells.toList := by
        rw [List.take_append_of_le_length (by simp; rw [Nat.add_mul]; omega)]
        exact List.take_of_length_le (by simp; rw [Nat.add_mul]; omega)
      rw [this, List.append_assoc]

section
variable {P : Program} {w : World} {Z : Nat → Prop} {β : Loc} {m : Mem}

theorem buildSlice_run {t e : TypeId} {i : TypeInfo} {z : Value} (ht : P.underlying t = some (.slice e)) (hi : P.info? e = some i) (hz : i.zero = some z) (hzs : z.cells.size = i.size) {vals : List Value} (hv : ∀ v ∈ vals, v.cells.size = i.size) (hsmall : vals.length * i.size ≤ 16777216) :
    (Instr.buildSlice t vals.length ((List.range vals.length).zip vals).toArray).run P w = .ok (.slice (some ⟨w.heap.size, 0, none⟩) vals.length vals.length) (w.alloc (.cells (vals.flatMap (fun v => v.cells.toList)).toArray e)) := by
  obtain ⟨C', h1, h2⟩ := fill_lit (sz := i.size) vals 0 ((Array.range (vals.length * i.size)).map ((if vals.length * i.size = 0 then #[] else z.cells)[· % (if vals.length * i.size = 0 then #[] else z.cells).size]!)) hv (by simp)
  have h3 : C' = (vals.flatMap (fun v => v.cells.toList)).toArray := by
    apply Array.ext'
    rw [h2]
    simp
  subst h3
  rw [List.range_eq_range']
  unfold Instr.buildSlice
  rw [Sem.run_bind, run_underlying ht]
  simp only [Result.andThen_ok]
  rw [Sem.run_bind, sizeOf_run hi]
  simp only [Result.andThen_ok]
  rw [if_neg (show ¬ vals.length * i.size > 2 ^ 24 by omega)]
  by_cases hn : vals.length * i.size = 0
  · rw [if_pos hn]
    simp only [if_pos hn] at h1
    simp only [Sem.run_bind, Sem.run_pure, Result.andThen_ok, h1, newRow, run_newObj]
    rfl
  · rw [if_neg hn]
    simp only [if_neg hn] at h1
    simp only [Sem.run_bind, Sem.run_pure, Result.andThen_ok, zeroValue, typeInfo, hi, hz, run_program, h1, newRow, run_newObj]
    rfl

/-- What litx gathers. -/
theorem litx_gather {d : Nat} {e : TypeId} {r : Row} : ∀ (parts : List (Nat × SV)) (xs : List r.T) (ks : List Nat) (ef : Eff), litx d e r m parts xs ks = some ef →
    ∃ ys : List r.T, ys.length = parts.length ∧ (∀ (j : Nat) p y, parts[j]? = some p → ys[j]? = some y → r.of m p.2.cellsOf = some y) ∧ (m.get (site d)).isNone = true ∧
      ef = ⟨.slw (site d), freeze m (ks ++ parts.flatMap fun p => p.2.cellsOf.flatMap SV.keys1) ++ [(site d, .row e r (xs ++ ys))], site d :: (ks ++ parts.flatMap fun p => p.2.cellsOf.flatMap SV.keys1)⟩
  | [], xs, ks, ef, h => by
    simp only [litx] at h
    split at h
    · rename_i hf
      cases h
      exact ⟨[], rfl, by simp, hf, by simp⟩
    · cases h
  | (i, v) :: l, xs, ks, ef, h => by
    simp only [litx] at h
    split at h
    · rename_i y hy
      obtain ⟨ys, hl, hys, hf, he⟩ := litx_gather l _ _ ef h
      refine ⟨y :: ys, by simp [hl], fun j p y' hp hy' => ?_, hf, by rw [he]; simp [List.append_assoc]⟩
      cases j with
      | zero => simp at hp hy'; subst hp hy'; exact hy
      | succ j => exact hys j p y' (by simpa using hp) (by simpa using hy')
    · cases h

theorem lit_sound (hm : MR w Z β m) {d : Nat} {e : TypeId} {r : Row} {parts : List (Nat × SV)} {ef : Eff} (h : litx d e r m parts [] [] = some ef) {t : TypeId} {i : TypeInfo} {z : Value} (ht : P.underlying t = some (.slice e)) (hi : P.info? e = some i)
    (hz : i.zero = some z) (hzs : z.cells.size = i.size) (hsz : r.size = i.size) (h0 : 0 < r.size) {vals : List Value} (hv : SV.RL w (β.away Z) β (parts.map (·.2)) vals) (hok : ∀ p ∈ parts, p.2.cellsOk = true) (hsmall : parts.length * r.size ≤ 16777216) :
    PostE Z w β m ef (.slice (some ⟨w.heap.size, 0, none⟩) vals.length vals.length) (w.alloc (.cells (vals.flatMap (fun v => v.cells.toList)).toArray e)) ∧ (∀ v ∈ vals, v.cells.size = i.size) := by
  obtain ⟨ys, hyl, hys, hf, rfl⟩ := litx_gather parts [] [] ef h
  simp only [List.nil_append] at *
  have hvl : vals.length = parts.length := by rw [SV.RL_len _ _ hv, List.length_map]
  have hcell : ∀ (j : Nat) p v, parts[j]? = some p → vals[j]? = some v → SV.RL w (β.away Z) β p.2.cellsOf v.cells.toList ∧ ∀ u ∈ v.cells.toList, u.oneCell' = true := by
    intro j p v hp hvj
    obtain ⟨v', hv', hR⟩ := SV.RL_get _ _ hv j p.2 (by simp [hp])
    rw [hvj] at hv'
    cases hv'
    exact cellsOf_R hR (hok p (List.mem_of_getElem? hp))
  have hget : ∀ {j : Nat}, j < parts.length → ∃ p v y, parts[j]? = some p ∧ vals[j]? = some v ∧ ys[j]? = some y := fun {j} hj =>
    ⟨_, _, _, List.getElem?_eq_getElem hj, List.getElem?_eq_getElem (by omega), List.getElem?_eq_getElem (by omega)⟩
  have hrow : ∀ (j : Nat) p v y, parts[j]? = some p → vals[j]? = some v → ys[j]? = some y → r.R w ((β.freezeL (parts.flatMap fun p => p.2.cellsOf.flatMap SV.keys1)).away Z) y v.cells.toList := by
    intro j p v y hp hvj hy
    refine Row.of_gen (m := m) (β := β) (A := β.away Z) (S := fun x => x ∈ p.2.cellsOf) (fun p' x y' v' hxm hx hR => ?_) r _ y _ (fun _ h => h) (hys j p y hp hy) (hcell j p v hp hvj).1
    exact Prim.of_frz hm p' x y' v' hx (fun k hk => List.mem_flatMap.2 ⟨p, List.mem_of_getElem? hp, List.mem_flatMap.2 ⟨x, hxm, hk⟩⟩) hR
  have hvsz : ∀ v ∈ vals, v.cells.size = i.size := by
    intro v hvm
    obtain ⟨j, hj⟩ := List.getElem?_of_mem hvm
    have hjl : j < parts.length := by rw [← hvl]; exact (List.getElem?_eq_some_iff.1 hj).1
    obtain ⟨p, v', y, hp, hv', hy⟩ := hget hjl
    rw [hj] at hv'
    cases hv'
    have := (Row.R_len r _ _ (hrow j p v y hp hj hy)).1
    simpa [hsz] using this
  refine ⟨?_, hvsz⟩
  obtain ⟨F, hF⟩ : ∃ F, F = parts.flatMap fun p => p.2.cellsOf.flatMap SV.keys1 := ⟨_, rfl⟩
  rw [← hF] at hrow ⊢
  have hmf := freeze_MR hm F
  have hstf := freeze_step (w := w) (β := β) F
  have hd : (m.sets (freeze m F)).get (site d) = none := by
    rw [get_freeze m F m _ fun k => .inl rfl]
    have : m.get (site d) = none := by simpa using hf
    split
    · rw [this]; rfl
    · exact this
  -- the cells
  have hcells : (vals.flatMap (fun v => v.cells.toList)).length = ys.length * r.size := by
    rw [List.length_flatMap]
    have : (vals.map fun v => v.cells.toList.length) = List.replicate vals.length r.size := by
      apply List.ext_getElem?
      intro q
      rw [List.getElem?_map, List.getElem?_replicate]
      by_cases hq : q < vals.length
      · rw [List.getElem?_eq_getElem hq, if_pos hq]
        simp [hvsz _ (List.getElem_mem hq), hsz]
      · rw [List.getElem?_eq_none (by omega), if_neg hq]; rfl
    rw [this, List.sum_replicate_nat, hyl, hvl]
  have hpick : ∀ (l : List Value) (j : Nat) (v : Value), (∀ u ∈ l, u.cells.size = r.size) → l[j]? = some v → (((l.flatMap (fun v => v.cells.toList)).drop (j * r.size)).take r.size) = v.cells.toList := by
    intro l
    induction l with
    | nil => intro j v _ h; simp at h
    | cons u l ih =>
      intro j v hu h
      have hus : u.cells.toList.length = r.size := by simpa using hu u (by simp)
      cases j with
      | zero =>
        simp at h
        subst h
        simp only [Nat.zero_mul, List.drop_zero, List.flatMap_cons]
        rw [List.take_append_of_le_length (by omega), List.take_of_length_le (by omega)]
      | succ j =>
        rw [List.flatMap_cons, show (j + 1) * r.size = u.cells.toList.length + j * r.size by rw [hus, Nat.add_mul]; omega, List.drop_append]
        have : List.drop (u.cells.toList.length + j * r.size) u.cells.toList = [] := by simp
        rw [this, List.nil_append, show u.cells.toList.length + j * r.size - u.cells.toList.length = j * r.size by omega]
        exact ih j v (fun x hx => hu x (by simp [hx])) (by simpa using h)
  have hrr : RowsR w ((β.freezeL F).away Z) r ys (vals.flatMap (fun v => v.cells.toList)) := by
    intro j hj
    obtain ⟨p, v, y, hp, hvj, hy⟩ := hget (show j < parts.length by omega)
    rw [hpick vals j v (fun u hu => by rw [hsz]; exact hvsz u hu) hvj]
    have : ys.get ⟨j, hj⟩ = y := by
      have := List.getElem?_eq_getElem hj
      rw [hy] at this
      simpa using this.symm
    rw [this]
    exact hrow j p v y hp hvj hy
  have hown : (w.alloc (.cells (vals.flatMap (fun v => v.cells.toList)).toArray e)).ownsRow 0 e r.size (.slice (some ⟨w.heap.size, 0, none⟩) ys.length ys.length) ys.length (vals.flatMap (fun v => v.cells.toList)) := by
    refine ⟨hcells, .inr ⟨w.heap.size, ys.length, _, rfl, Nat.zero_le _, heap_alloc_new w _, Nat.le_refl _, ?_, ?_, ?_⟩⟩
    · simp only [maxLen]
      have : parts.length ≤ parts.length * r.size := Nat.le_mul_of_pos_right _ h0
      omega
    · simpa using hcells
    · exact List.take_of_length_le (Nat.le_of_eq hcells)
  obtain ⟨β', h1, h2, h3⟩ := post_row hmf hd (old := none) (s := .slice none 0 0) (by intro k l h; cases h) h0 hown (World.grownBy_alloc w _ _) (by intro b hb; simp [Value.ownBlock] at hb) (.inr rfl) (fun A' hst => hrr.stays hst) []
  refine ⟨β', hstf.trans h1, ?_, ?_⟩
  · simpa [goneOf, Mem.sets_append] using h2
  · rw [hvl, ← hyl]
    exact h3
end
end Go.Proofs.Ytgfanlafbjbkaaa.S2
