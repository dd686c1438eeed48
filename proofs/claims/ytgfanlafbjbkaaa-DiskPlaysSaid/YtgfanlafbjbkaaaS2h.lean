/-
  S2, eighth part: lists that are read; append.
-/
import Derived.Test.YtgfanlafbjbkaaaS2g
import Derived.Maps.AppendAt
set_option linter.unusedVariables false
set_option linter.unusedSimpArgs false
namespace Go.Proofs.Ytgfanlafbjbkaaa.S2
open Go

theorem cells_of_rows {p : Nat → List Value → Prop} {sz : Nat} : ∀ (n : Nat), (∀ j, j < n → ∃ cs, cs.length = sz ∧ p j cs) → ∃ cells : List Value, cells.length = n * sz ∧ ∀ j, j < n → p j ((cells.drop (j * sz)).take sz)
  | 0, _ => ⟨[], by simp, fun j h => by omega⟩
  | n + 1, h => by
    obtain ⟨cells, hl, hc⟩ := cells_of_rows n fun j hj => h j (by omega)
    obtain ⟨cs, hcl, hp⟩ := h n (by omega)
    refine ⟨cells ++ cs, by rw [List.length_append, hl, hcl, Nat.add_mul]; omega, fun j hj => ?_⟩
    by_cases hjn : j < n
    · have h1 : (j + 1) * sz ≤ n * sz := Nat.mul_le_mul_right _ (by omega)
      rw [Nat.add_mul] at h1
      have e : ((cells ++ cs).drop (j * sz)).take sz = (cells.drop (j * sz)).take sz := by
        rw [List.drop_append_of_le_length (by omega), List.take_append_of_le_length (by simp; omega)]
      rw [e]
      exact hc j hjn
    · obtain rfl : j = n := by omega
      have e : ((cells ++ cs).drop (j * sz)).take sz = cs := by
        rw [← hl, List.drop_left, List.take_of_length_le (by omega)]
      rw [e]
      exact hp

theorem get_row {cells : List Value} {sz j i : Nat} {u : Value} (h : ((cells.drop (j * sz)).take sz)[i]? = some u) : i < sz ∧ cells[j * sz + i]? = some u := by
  rw [List.getElem?_take] at h
  split at h
  · rename_i hi
    exact ⟨hi, by rwa [List.getElem?_drop] at h⟩
  · cases h

theorem row_get {cells : List Value} {sz q : Nat} {u : Value} (hs : 0 < sz) (h : cells[q]? = some u) : ((cells.drop (q / sz * sz)).take sz)[q % sz]? = some u := by
  rw [List.getElem?_take, if_pos (Nat.mod_lt _ hs), List.getElem?_drop]
  have : q / sz * sz + q % sz = q := by rw [Nat.mul_comm]; exact Nat.div_add_mod q sz
  rwa [this]

theorem RowsR.drop {w : World} {A : Nat → Prop} {r : Row} {xs : List r.T} {cells : List Value} (h : RowsR w A r xs cells) (k : Nat) : RowsR w A r (xs.drop k) (cells.drop (k * r.size)) := by
  intro j hj
  have hj' : k + j < xs.length := by simp at hj; omega
  have := h (k + j) hj'
  rw [List.drop_drop, show k * r.size + j * r.size = (k + j) * r.size by rw [Nat.add_mul]]
  have e : (xs.drop k).get ⟨j, hj⟩ = xs.get ⟨k + j, hj'⟩ := by simp
  rw [e]
  exact this

theorem RowsR.take {w : World} {A : Nat → Prop} {r : Row} {xs : List r.T} {cells : List Value} (h : RowsR w A r xs cells) (k : Nat) : RowsR w A r (xs.take k) (cells.take (k * r.size)) := by
  intro j hj
  have hj' : j < xs.length := by simp at hj; omega
  have hjk : j < k := by simp at hj; omega
  have := h j hj'
  have h1 : (j + 1) * r.size ≤ k * r.size := Nat.mul_le_mul_right _ (by omega)
  rw [Nat.add_mul] at h1
  have e : (xs.take k).get ⟨j, hj⟩ = xs.get ⟨j, hj'⟩ := by simp
  rw [e, List.drop_take, List.take_take, Nat.min_eq_left (by omega)]
  exact this

theorem RowsR.append {w : World} {A : Nat → Prop} {r : Row} {xs ys : List r.T} {cs ds : List Value} (h : RowsR w A r xs cs) (hl : cs.length = xs.length * r.size) (k : RowsR w A r ys ds) (hd : ds.length = ys.length * r.size) :
    RowsR w A r (xs ++ ys) (cs ++ ds) := by
  intro j hj
  by_cases hjx : j < xs.length
  · have h1 : (j + 1) * r.size ≤ xs.length * r.size := Nat.mul_le_mul_right _ (by omega)
    rw [Nat.add_mul] at h1
    have e : (xs ++ ys).get ⟨j, hj⟩ = xs.get ⟨j, hjx⟩ := by simp [List.getElem_append, hjx]
    rw [e, List.drop_append_of_le_length (by omega), List.take_append_of_le_length (by simp; omega)]
    exact h j hjx
  · have hjy : j - xs.length < ys.length := by simp at hj; omega
    have e : (xs ++ ys).get ⟨j, hj⟩ = ys.get ⟨j - xs.length, hjy⟩ := by simp [List.getElem_append, hjx]
    have e2 : j * r.size = cs.length + (j - xs.length) * r.size := by rw [hl, ← Nat.add_mul]; congr 1; omega
    rw [e, e2, List.drop_append]
    have : (cs.drop (cs.length + (j - xs.length) * r.size)) = [] := by simp
    rw [this, List.nil_append]
    have e3 : cs.length + (j - xs.length) * r.size - cs.length = (j - xs.length) * r.size := by omega
    rw [e3]
    exact k _ hjy

/-- What a list that is read is in the world. -/
def ListAt (w : World) (A : Nat → Prop) (r : Row) (xs : List r.T) (v : Value) (cells : List Value) : Prop :=
  ∃ ad c, v = .slice ad xs.length c ∧ xs.length ≤ c ∧ cells.length = xs.length * r.size ∧ (0 < xs.length → ∃ a, ad = some a) ∧ (∀ a, ad = some a → ∀ (j : Nat) u, cells[j]? = some u → w.cell? (a.add j) = some u) ∧ RowsR w A r xs cells

theorem ListAt.of_pure {w : World} {A : Nat → Prop} {e : TypeId} {r : Row} {xs : List r.T} {v : Value} (hs : 0 < r.size) (h : (Prim.slc e r).R w A xs v) : ∃ cells, ListAt w A r xs v cells := by
  simp only [Prim.R] at h
  obtain ⟨ad, cap, rfl, hcap, hx⟩ := h
  obtain ⟨cells, hl, hc⟩ := cells_of_rows (p := fun j cs => ∀ (h : j < xs.length), ∃ a, ad = some a ∧ (∀ (i : Nat) u, cs[i]? = some u → w.cell? (a.add (j * r.size + i)) = some u) ∧ r.R w A (xs.get ⟨j, h⟩) cs) (sz := r.size) xs.length fun j hj => by
    obtain ⟨a, cs, ha, _, _, hl, hc, hR⟩ := hx j hj
    exact ⟨cs, hl, fun _ => ⟨a, ha, hc, hR⟩⟩
  refine ⟨cells, ad, cap, rfl, hcap.1, hl, fun h0 => ?_, fun a ha j u hu => ?_, fun j hj => ?_⟩
  · obtain ⟨a, cs, ha, _⟩ := hx 0 h0
    exact ⟨a, ha⟩
  · have hjl : j < xs.length * r.size := by rw [← hl]; exact (List.getElem?_eq_some_iff.1 hu).1
    have hq : j / r.size < xs.length := Nat.div_lt_of_lt_mul (by rwa [Nat.mul_comm])
    obtain ⟨a', ha', hc', _⟩ := hc (j / r.size) hq hq
    rw [ha] at ha'
    cases ha'
    have := hc' (j % r.size) u (row_get hs hu)
    rwa [show j / r.size * r.size + j % r.size = j by rw [Nat.mul_comm]; exact Nat.div_add_mod j r.size] at this
  · obtain ⟨_, _, _, hR⟩ := hc j hj hj
    exact hR

theorem ListAt.of_piece {w : World} {A : Nat → Prop} {r : Row} {xs : List r.T} {ad : Option Nat} {cap off len : Nat} {v : Value} {cells : List Value}
    (hp : pieceOf ad cap xs.length r.size off len v) (hl : cells.length = xs.length * r.size) (h0 : ad = none → xs.length = 0) (hc : ∀ g, ad = some g → ∀ (j : Nat) u, cells[j]? = some u → w.cell? ⟨g, j, none⟩ = some u) (hr : RowsR w A r xs cells) :
    ListAt w A r ((xs.drop off).take len) v ((cells.drop (off * r.size)).take (len * r.size)) := by
  obtain ⟨A', c, rfl, hlc, hoff, hcap, ha⟩ := hp
  have hlen : ((xs.drop off).take len).length = len := by simp; omega
  refine ⟨A', c, by rw [hlen], by omega, ?_, fun hpos => ?_, fun a haa j u hu => ?_, (hr.drop off).take len⟩
  · rw [hlen]
    have : (off + len) * r.size ≤ xs.length * r.size := Nat.mul_le_mul_right _ hoff
    rw [Nat.add_mul] at this
    simp [hl]
    omega
  · rw [ha (.inl (by omega))]
    cases ad with
    | none => have := h0 rfl; omega
    | some g => exact ⟨_, rfl⟩
  · rw [List.getElem?_take] at hu
    split at hu
    · rename_i hj
      have hpos : 0 < len := by
        rcases Nat.eq_zero_or_pos len with h | h
        · subst h; simp at hj
        · exact h
      rw [List.getElem?_drop] at hu
      rw [ha (.inl (by omega))] at haa
      cases ad with
      | none => cases haa
      | some g =>
        simp at haa
        subst haa
        rw [add_mk]
        exact hc g rfl _ _ hu
    · cases hu

theorem ownsRow_none {w : World} {e : TypeId} {sz cap n : Nat} {cells : List Value} (h : w.ownsRow 0 e sz (.slice (atG none) n cap) n cells) : n = 0 := by
  rcases h.2 with ⟨_, h0⟩ | ⟨g, cap', cur, hv, _⟩
  · exact h0
  · simp [atG] at hv

theorem listOf_at {w : World} {Z : Nat → Prop} {β : Loc} {m : Mem} (hm : MR w Z β m) {e : TypeId} {r : Row} (hs : 0 < r.size) {x : SV} {ys : List r.T} (h : listOf e r x m = some ys) {v : Value} (hx : x.R w (β.away Z) β v) :
    ∃ cells, ListAt w (β.away Z) r ys v cells := by
  unfold listOf at h
  cases x with
  | ps e' r' xs =>
    simp only [Prim.of] at h
    split at h
    · rename_i hr
      split at h
      · cases h
        subst hr
        exact ListAt.of_pure (e := e') hs hx
      · cases h
    · cases h
  | nils =>
    simp only [Prim.of] at h
    cases h
    simp only [SV.R] at hx
    subst hx
    exact ⟨[], none, 0, rfl, Nat.le_refl _, by simp, fun h => absurd h (by simp), (by intro a ha; cases ha), (by intro j hj; exact absurd hj (by simp))⟩
  | pe =>
    simp only [Prim.of] at h
    cases h
    simp only [SV.R] at hx
    obtain ⟨a, cap, rfl⟩ := hx
    exact ⟨[], some a, cap, rfl, Nat.zero_le _, by simp, fun h => absurd h (by simp), (by intro a ha j u hu; simp at hu), (by intro j hj; exact absurd hj (by simp))⟩
  | slw k =>
    simp only [Prim.of] at h
    simp only [SV.R] at hx
    obtain ⟨lk, hlk, hp⟩ := hx
    split at h
    · rename_i e1 r1 xs1 hg
      split at h
      · rename_i hr
        split at h
        · cases h
          subst hr
          obtain ⟨l', hl', hob⟩ := hm.obs k _ hg
          rw [hlk] at hl'; cases hl'
          cases lk with
          | row ad cap n sz e' =>
            obtain ⟨_, hsz, _, hn, cells, ho, hrr⟩ := hob
            subst hsz hn
            have := ListAt.of_piece hp ho.1 (fun h => by subst h; exact ownsRow_none ho) (fun g hg j u hu => by
              subst hg
              have := ho.cells (g := g) (by simp [Value.ownBlock, atG]) j u hu
              rwa [add_mk, Nat.zero_add] at this) hrr
            rw [List.drop_zero, List.take_length] at this
            exact ⟨_, this⟩
          | _ => exact hob.elim
        · cases h
      · cases h
    · rename_i e1 r1 xs1 hg
      split at h
      · rename_i hr
        split at h
        · cases h
          subst hr
          obtain ⟨l', hl', hob⟩ := hm.obs k _ hg
          rw [hlk] at hl'; cases hl'
          cases lk with
          | froz ad cap n sz e' =>
            obtain ⟨_, hsz, hn, hR⟩ := hob
            subst hsz hn
            obtain ⟨cells, ad', c', hv, hle, hl, h0, hc, hrr⟩ := ListAt.of_pure hs hR
            simp at hv
            have := ListAt.of_piece hp hl (fun h => by
              rcases Nat.eq_zero_or_pos xs1.length with h' | h'
              · exact h'
              · obtain ⟨a, ha⟩ := h0 h'
                rw [ha, h] at hv
                simp [atG] at hv) (fun g hg j u hu => by
              have := hc ⟨g, 0, none⟩ (by rw [← hv.1, hg]; rfl) j u hu
              rwa [add_mk, Nat.zero_add] at this) hrr
            rw [List.drop_zero, List.take_length] at this
            exact ⟨_, this⟩
          | _ => exact hob.elim
        · cases h
      · cases h
    · cases h
  | sl k off len =>
    simp only [Prim.of] at h
    simp only [SV.R] at hx
    obtain ⟨lk, hlk, hp⟩ := hx
    split at h
    · rename_i e1 r1 xs1 hg
      split at h
      · rename_i hr
        split at h
        · cases h
          subst hr
          obtain ⟨l', hl', hob⟩ := hm.obs k _ hg
          rw [hlk] at hl'; cases hl'
          cases lk with
          | row ad cap n sz e' =>
            obtain ⟨_, hsz, _, hn, cells, ho, hrr⟩ := hob
            subst hsz hn
            exact ⟨_, ListAt.of_piece hp ho.1 (fun h => by subst h; exact ownsRow_none ho) (fun g hg j u hu => by
              subst hg
              have := ho.cells (g := g) (by simp [Value.ownBlock, atG]) j u hu
              rwa [add_mk, Nat.zero_add] at this) hrr⟩
          | _ => exact hob.elim
        · cases h
      · cases h
    · rename_i e1 r1 xs1 hg
      split at h
      · rename_i hr
        split at h
        · cases h
          subst hr
          obtain ⟨l', hl', hob⟩ := hm.obs k _ hg
          rw [hlk] at hl'; cases hl'
          cases lk with
          | froz ad cap n sz e' =>
            obtain ⟨_, hsz, hn, hR⟩ := hob
            subst hsz hn
            obtain ⟨cells, ad', c', hv, hle, hl, h0, hc, hrr⟩ := ListAt.of_pure hs hR
            simp at hv
            exact ⟨_, ListAt.of_piece hp hl (fun h => by
              rcases Nat.eq_zero_or_pos xs1.length with h' | h'
              · exact h'
              · obtain ⟨a, ha⟩ := h0 h'
                rw [ha, h] at hv
                simp [atG] at hv) (fun g hg j u hu => by
              have := hc ⟨g, 0, none⟩ (by rw [← hv.1, hg]; rfl) j u hu
              rwa [add_mk, Nat.zero_add] at this) hrr⟩
          | _ => exact hob.elim
        · cases h
      · cases h
    · cases h
  | _ => simp [Prim.of] at h

theorem RowsR.one {w : World} {A : Nat → Prop} {r : Row} {xs : List r.T} {cells : List Value} (h : RowsR w A r xs cells) (hs : 0 < r.size) (hl : cells.length = xs.length * r.size) : ∀ u ∈ cells, u.oneCell' = true := by
  intro u hu
  obtain ⟨j, hj⟩ := List.getElem?_of_mem hu
  have hjl : j < xs.length * r.size := by rw [← hl]; exact (List.getElem?_eq_some_iff.1 hj).1
  have hq : j / r.size < xs.length := Nat.div_lt_of_lt_mul (by rwa [Nat.mul_comm])
  exact (Row.R_len r _ _ (h _ hq)).2 u (List.mem_of_getElem? (row_get hs hj))

/-- append, at the model's own level: of an own row and a list that is read. -/
theorem run_append_list {P : Program} {w : World} {A : Nat → Prop} {t ty e : TypeId} {i : TypeInfo} {z : Value} (ht : P.underlying t = some (.slice e)) (hi : P.info? e = some i) (hz : i.zero = some z) (hzs : z.cells.size = i.size)
    {r : Row} (hsz : r.size = i.size) (h0 : 0 < r.size) (hb0 : 0 < i.bytes) {s : Value} {n : Nat} {xs : List Value} (ho : w.ownsRow 0 e r.size s n xs) {ys : List r.T} {x : Value} {cells : List Value} (hx : ListAt w A r ys x cells)
    (hbytes : (n + ys.length) * i.bytes ≤ 140737488355328) :
    ∃ v' w', (Builtin.append_ #[t, t] ty #[s, x]).run P w = .ok v' w' ∧ w'.ownsRow 0 e r.size v' (n + ys.length) (xs ++ cells) ∧ w.grownBy w' s.ownBlock ∧ (v'.ownBlock = s.ownBlock ∨ v'.ownBlock = some w.heap.size) := by
  obtain ⟨ad, c, rfl, hle, hl, hpos, hc, hrr⟩ := hx
  have hn : n + ys.length ≤ 140737488355328 := Nat.le_trans (Nat.le_mul_of_pos_right _ hb0) hbytes
  cases ad with
  | some a =>
    obtain ⟨v', w', h1, h2, h3, _, h5⟩ := run_append_own_at (P := P) w 0 t ty e i z r.size i.bytes ht hi hz hsz.symm rfl (by omega) h0 s n xs ho a ys.length c cells hl (hc a rfl) (hrr.one h0 hl) (by simp only [maxLen]; omega) hbytes (Nat.zero_le _)
    exact ⟨v', w', h1, h2, h3, h5⟩
  | none =>
    have hy : ys.length = 0 := by
      rcases Nat.eq_zero_or_pos ys.length with h | h
      · exact h
      · obtain ⟨a, ha⟩ := hpos h; cases ha
    have hcells : cells = [] := List.eq_nil_of_length_eq_zero (by rw [hl, hy, Nat.zero_mul])
    subst hcells
    rw [hy]
    refine ⟨s, w, ?_, by simpa using ho, ⟨rfl, rfl, rfl, Nat.le_refl _, fun _ _ _ => rfl⟩, .inl rfl⟩
    rcases ho.2 with ⟨rfl, rfl⟩ | ⟨g, cap, cur, rfl, _, hg, hnc, _⟩
    · simp [Builtin.append_, run_underlying ht, sizeOf, typeInfo, hi, Builtin.lenOf, Builtin.firstCells]
    · simp [Builtin.append_, run_underlying ht, sizeOf, typeInfo, hi, Builtin.lenOf, Builtin.firstCells, hnc, storeCells]

theorem res_R {w : World} {Z : Nat → Prop} {β : Loc} {m : Mem} (hm : MR w Z β m) {x : SV} {v : Value} (hx : x.R w (β.away Z) β v) : (x.res m).R w (β.away Z) β v := by
  cases x with
  | slw k =>
    simp only [SV.R] at hx
    obtain ⟨l, hl, hp⟩ := hx
    simp only [SV.res]
    split
    · rename_i e r xs hg
      obtain ⟨l', hl', hob⟩ := hm.obs k _ hg
      rw [hl] at hl'; cases hl'
      cases l with
      | row ad cap n sz e' =>
        obtain ⟨_, _, _, hn, _⟩ := hob
        subst hn
        exact ⟨_, hl, hp⟩
      | _ => exact hob.elim
    · rename_i e r xs hg
      obtain ⟨l', hl', hob⟩ := hm.obs k _ hg
      rw [hl] at hl'; cases hl'
      cases l with
      | froz ad cap n sz e' =>
        obtain ⟨_, _, hn, _⟩ := hob
        subst hn
        exact ⟨_, hl, hp⟩
      | _ => exact hob.elim
    · trivial
  | _ => exact hx

theorem ownsRow_take {w : World} {e : TypeId} {sz cap n : Nat} {ad : Option Nat} {cells : List Value} (h : w.ownsRow 0 e sz (.slice (atG ad) n cap) n cells) {k : Nat} (hk : k ≤ n) : w.ownsRow 0 e sz (.slice (atG ad) k cap) k (cells.take (k * sz)) := by
  obtain ⟨hl, h⟩ := h
  have hle : k * sz ≤ n * sz := Nat.mul_le_mul_right _ hk
  refine ⟨by rw [List.length_take, hl, Nat.min_eq_left hle], ?_⟩
  rcases h with ⟨hv, h0⟩ | ⟨g, cap', cur, hv, hg, hh, hnc, hcm, hcs, hcur⟩
  · obtain rfl : k = 0 := by omega
    simp at hv
    exact .inl ⟨by simp [hv], rfl⟩
  · simp at hv
    refine .inr ⟨g, cap', cur, by simp [hv], hg, hh, by omega, hcm, hcs, ?_⟩
    rw [← hcur, List.take_take, Nat.min_eq_left hle]
end Go.Proofs.Ytgfanlafbjbkaaa.S2
