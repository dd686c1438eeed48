/- S2: a second, plain meaning of the model's code, and that the model does what it says. -/
import Derived.Test.YtgakbdikappdbaaGreatS2y
import Derived.WalkKit
import Derived.ProofKit
import Derived.OpenShut
import Derived.ShutString
import Derived.ChangeOld
import Derived.Below
import Derived.SizedLaws
import Derived.ChangeBears
import Derived.WideShapes
set_option linter.unusedVariables false
set_option linter.unusedSimpArgs false
namespace Go.Proofs.YtgakbdikappdbaaGreat.S2
open Go
mutual
/-- Within its kind's bounds, and not too long. -/
def Prim.wf (P : Program) : (p : Prim) → p.T → Prop
  | .int k, (n : Int) => k.min ≤ n ∧ n ≤ k.max
  | .bool, _ => True
  | .str, s => s.size ≤ 140737488351232
  | .slc e r, xs => List.length (α := r.T) xs * P.bytesOf e ≤ 140737488351232 ∧ ∀ j (h : j < List.length (α := r.T) xs), r.wf P (List.get (α := r.T) xs ⟨j, h⟩)
def Row.wf (P : Program) : (r : Row) → r.T → Prop
  | .nil, _ => True
  | .cons p .nil, x => p.wf P x
  | .cons p (.cons q r), x => p.wf P x.1 ∧ (Row.cons q r).wf P x.2
end
mutual
def Prim.full : Prim → Bool
  | .slc _ r => decide (0 < r.size) && r.full
  | _ => true
def Row.full : Row → Bool
  | .nil => true
  | .cons p r => p.full && r.full
end
mutual
def Sk.wf (P : Program) : (s : Sk) → s.T → Prop
  | .const _, _ => True
  | .leaf p, x => p.wf P x
  | .piece _, _ => True
  | .agg l, x => l.wf P x
  | .tup l, x => l.wf P x
  | .fn _ l, x => l.wf P x
def SkL.wf (P : Program) : (l : SkL) → l.T → Prop
  | .nil, _ => True
  | .cons (.const _) l, x => l.wf P x
  | .cons (.leaf p) l, x => p.wf P x.1 ∧ l.wf P x.2
  | .cons (.piece _) l, x => l.wf P x.2
  | .cons (.agg l') l, x => l'.wf P x.1 ∧ l.wf P x.2
  | .cons (.tup l') l, x => l'.wf P x.1 ∧ l.wf P x.2
  | .cons (.fn _ l') l, x => l'.wf P x.1 ∧ l.wf P x.2
end
mutual
def Sk.full : Sk → Bool
  | .const _ => true
  | .leaf p => p.full
  | .piece _ => true
  | .agg l => l.full
  | .tup l => l.full
  | .fn _ l => l.full
def SkL.full : SkL → Bool
  | .nil => true
  | .cons s l => s.full && l.full
end
theorem skPrims_full : ∀ (ps : List Prim), (skPrims ps).full = (Row.ofList ps).full
  | [] => rfl
  | p :: ps => by simp only [skPrims, SkL.full, Sk.full, Row.ofList, Row.full, skPrims_full ps]
def PrimEx (P : Program) (w : World) (p : Prim) (v : Value) : Prop := ∃ x : p.T, p.R w (fun _ => False) x v ∧ p.wf P x
def RowEx (P : Program) (w : World) (r : Row) (cs : List Value) : Prop := ∃ x : r.T, r.R w (fun _ => False) x cs ∧ r.wf P x
section
variable {P : Program} {w : World}
theorem rowEx_nil : RowEx P w .nil [] := ⟨(), rfl, trivial⟩
theorem rowEx_cons {p : Prim} {r : Row} {v : Value} {cs : List Value} (h : PrimEx P w p v) (k : RowEx P w r cs) : RowEx P w (.cons p r) (v :: cs) := by
  obtain ⟨x, hx, hw⟩ := h
  obtain ⟨y, hy, hv⟩ := k
  cases r with
  | nil =>
    simp only [Row.R] at hy
    subst hy
    exact ⟨x, ⟨v, rfl, hx⟩, hw⟩
  | cons q r => exact ⟨(x, y), ⟨v, cs, rfl, hx, hy⟩, hw, hv⟩
theorem rowEx_inv {p : Prim} {r : Row} {cs : List Value} (h : RowEx P w (.cons p r) cs) : ∃ v cs', cs = v :: cs' ∧ PrimEx P w p v ∧ RowEx P w r cs' := by
  obtain ⟨x, hx, hw⟩ := h
  cases r with
  | nil =>
    obtain ⟨v, rfl, hv⟩ := hx
    exact ⟨v, [], rfl, ⟨x, hv, hw⟩, rowEx_nil⟩
  | cons q r =>
    obtain ⟨v, vs, rfl, hv, hr⟩ := hx
    exact ⟨v, vs, rfl, ⟨x.1, hv, hw.1⟩, ⟨x.2, hr, hw.2⟩⟩
theorem rowEx_append : ∀ {a b : List Prim} {cs cs' : List Value}, RowEx P w (Row.ofList a) cs → RowEx P w (Row.ofList b) cs' → RowEx P w (Row.ofList (a ++ b)) (cs ++ cs')
  | [], b, cs, cs', h, k => by
    obtain ⟨x, hx, _⟩ := h
    simp only [Row.ofList, Row.R] at hx
    subst hx
    exact k
  | p :: a, b, cs, cs', h, k => by
    obtain ⟨v, vs, rfl, hp, hr⟩ := rowEx_inv h
    exact rowEx_cons hp (rowEx_append hr k)
theorem skPrims_ex : ∀ (ps : List Prim) (cs : List Value), RowEx P w (Row.ofList ps) cs → ∃ y : (skPrims ps).T, SV.RL w (fun _ => False) (fun _ => none) ((skPrims ps).svs y) cs ∧ (skPrims ps).wf P y
  | [], cs, h => by
    obtain ⟨x, hx, _⟩ := h
    exact ⟨(), hx, trivial⟩
  | p :: ps, cs, h => by
    obtain ⟨v, vs, rfl, ⟨x, hx, hw⟩, hr⟩ := rowEx_inv h
    obtain ⟨y, hy, hyw⟩ := skPrims_ex ps vs hr
    exact ⟨(x, y), ⟨v, vs, rfl, Prim.R_sv p x v hx, hy⟩, hw, hyw⟩
theorem full_append : ∀ {a b : List Prim}, (Row.ofList (a ++ b)).full = true → (Row.ofList a).full = true ∧ (Row.ofList b).full = true
  | [], b, h => ⟨rfl, h⟩
  | p :: a, b, h => by
    simp only [List.cons_append, Row.ofList, Row.full, Bool.and_eq_true] at h ⊢
    exact ⟨⟨h.1, (full_append h.2).1⟩, (full_append h.2).2⟩
theorem pickList {α : Type} {Q : Nat → α → Prop} : ∀ {n : Nat}, (∀ j, j < n → ∃ x, Q j x) → ∃ xs : List α, xs.length = n ∧ ∀ j (h : j < xs.length), Q j xs[j]
  | 0, _ => ⟨[], rfl, fun j h => by simp at h⟩
  | n + 1, h => by
    obtain ⟨xs, hl, hx⟩ := pickList (Q := Q) (n := n) fun j hj => h j (by omega)
    obtain ⟨y, hy⟩ := h n (by omega)
    refine ⟨xs ++ [y], by simp [hl], fun j hj => ?_⟩
    by_cases hjn : j < xs.length
    · rw [List.getElem_append_left hjn]
      exact hx j hjn
    · simp at hj
      obtain rfl : j = xs.length := by omega
      rw [List.getElem_append_right (Nat.le_refl _)]
      simp
      rw [hl]
      exact hy
theorem int_wf {k : IntKind} {n : Int} (h : (Lit.int k n).wf = true) : k.min ≤ n ∧ n ≤ k.max := by simpa [Lit.wf] using h
end
section
variable {H : Type} {enc : TypeId × Value → H} {P : Program} {w : World} {sp : Nat → Bool} {held : Bool}
theorem slice_ex {e : TypeId} {ps : List Prim} {x : DataW H × List MemPlace} (hp : 0 < (Row.ofList ps).size) (hfl : (Row.ofList ps).full = true)
    (ih : ∀ fuel cs (x : DataW H × List MemPlace), DataW.trod enc P w 0 sp held fuel e cs = some x → (∀ m ∈ x.1.weights P e, m ≤ reachBytes) → RowEx P w (Row.ofList ps) cs)
    {t : TypeId} (ht : P.underlying t = some (.slice e)) {fuel : Nat} {cs : List Value} (h : DataW.trod enc P w 0 sp held fuel t cs = some x) (hm : ∀ m ∈ x.1.weights P t, m ≤ reachBytes) :
    RowEx P w (Row.ofList [.slc e (Row.ofList ps)]) cs := by
  rcases DataW.trod_slice ht h with ⟨rfl, rfl⟩ | ⟨a, len, cap, elems, rest, n, rfl, rfl, rfl, hb, hl, hc, hlen, hel, _, _⟩
  · exact rowEx_cons ⟨[], ⟨none, 0, rfl, ⟨Nat.le_refl _, fun _ => rfl⟩, fun j hj => by simp at hj⟩, by simp [Prim.wf]⟩ rowEx_nil
  · refine rowEx_cons ?_ rowEx_nil
    have each : ∀ j, j < len → ∃ y : (Row.ofList ps).T, ∃ cs : List Value, w.cells? 0 (a.add (j * P.cellsOf e)) (P.cellsOf e) = some cs ∧ (Row.ofList ps).R w (fun _ => False) y cs ∧ (Row.ofList ps).wf P y := by
      intro j hj
      have hj' : j < elems.length := by omega
      have he := hel j hj
      rw [List.getElem?_eq_getElem hj'] at he
      obtain ⟨cs, h1, h2⟩ := Option.bind_eq_some_iff.1 he
      have hw : ∀ m ∈ elems[j].1.weights P e, m ≤ reachBytes := by
        intro m hmm
        refine hm m ?_
        simp only [DataW.weights, ht, List.mem_cons, List.mem_append]
        right; left
        have : ∀ (l : List (DataW H)) (d : DataW H), d ∈ l → m ∈ d.weights P e → m ∈ DataW.weightsAll P e l := by
          intro l
          induction l with
          | nil => intro d hd; cases hd
          | cons b l ih =>
            intro d hd hmd
            simp only [DataW.weightsAll, List.mem_append]
            rcases List.mem_cons.1 hd with rfl | hd
            · exact .inl hmd
            · exact .inr (ih d hd hmd)
        exact this _ elems[j].1 (List.mem_map_of_mem (List.getElem_mem hj')) hmm
      obtain ⟨y, hy, hyw⟩ := ih n cs _ h2 hw
      exact ⟨y, cs, h1, hy, hyw⟩
    obtain ⟨xs, hxl, hx⟩ := pickList each
    refine ⟨xs, ?_, ?_, ?_⟩
    · refine ⟨some a, cap, by rw [hxl], by rw [hxl]; exact ⟨hl, fun h => by cases h⟩, fun j hj => ?_⟩
      obtain ⟨cs, h1, h2, _⟩ := hx j hj
      obtain ⟨_, hcl, hcell⟩ := World.cells?_some h1
      have hsz := (Row.R_len _ _ _ h2).1
      have hce : P.cellsOf e = (Row.ofList ps).size := by omega
      have hblk : a.block < w.heap.size := by
        have h0 := hcell 0 (by omega)
        have h0' : w.cell? ((a.add (j * P.cellsOf e)).add 0) = some (cs[0]'(by omega)) := by rw [h0]; exact List.getElem?_eq_getElem _
        have := World.block_lt_of_cell? _ _ h0'
        rwa [add_block, add_block] at this
      refine ⟨a, cs, rfl, fun h => h, hblk, hsz, fun i u hu => ?_, h2⟩
      have hi : i < P.cellsOf e := by
        have := (List.getElem?_eq_some_iff.1 hu).1
        omega
      rw [← add_add, ← hce, hcell i hi]
      exact hu
    · have := hm ((elems.length + rest.length) * P.bytesOf e) (by simp [DataW.weights, ht])
      have h2 : xs.length * P.bytesOf e ≤ (elems.length + rest.length) * P.bytesOf e := Nat.mul_le_mul_right _ (by omega)
      have h3 : reachBytes = 140737488351232 := by decide
      show xs.length * P.bytesOf e ≤ _
      omega
    · intro j hj
      obtain ⟨_, _, _, h⟩ := hx j hj
      exact h
theorem weightsAll_mem {e : TypeId} {m : Nat} : ∀ {l : List (DataW H)} {d : DataW H}, d ∈ l → m ∈ d.weights P e → m ∈ DataW.weightsAll P e l
  | [], d, hd, _ => by cases hd
  | b :: l, d, hd, hm => by
    simp only [DataW.weightsAll, List.mem_append]
    rcases List.mem_cons.1 hd with rfl | hd
    · exact .inl hm
    · exact .inr (weightsAll_mem hd hm)
theorem struct_ex {m n : Nat} (ih : ∀ (e : TypeId) (qs : List Prim), e < P.types.size → primsOf P n e = some qs → (Row.ofList qs).full = true → ∀ (fuel : Nat) (cs : List Value) (x : DataW H × List MemPlace),
      DataW.trod enc P w 0 sp held fuel e cs = some x → (∀ m ∈ x.1.weights P e, m ≤ reachBytes) → RowEx P w (Row.ofList qs) cs) :
    ∀ (fs : List Field) (l : List (List Prim)) (cs : List Value) (off : Nat), allSome (fun f : Field => primsOf P n f.type) fs = some l → (∀ f ∈ fs, f.type < P.types.size) →
      (∀ (i : Nat) (f : Field), fs[i]? = some f → ∃ x, DataW.trod enc P w 0 sp held m f.type ((cs.drop (f.offset - off)).take (P.cellsOf f.type)) = some x ∧ ∀ mm ∈ x.1.weights P f.type, mm ≤ reachBytes) →
      (∀ (j : Nat) (f : Field), fs[j]? = some f → f.offset = off + ((fs.take j).map fun f => P.cellsOf f.type).sum) → cs.length = (fs.map fun f => P.cellsOf f.type).sum → (Row.ofList l.flatten).full = true → RowEx P w (Row.ofList l.flatten) cs
  | [], l, cs, off, hq, _, _, _, hc, _ => by
    cases hq
    simp at hc
    subst hc
    exact rowEx_nil
  | f :: fs, l, cs, off, hq, ht, hx, ho, hc, hf => by
    simp only [allSome] at hq
    split at hq
    · rename_i b bs hb hbs
      cases hq
      rw [List.flatten_cons] at hf ⊢
      obtain ⟨hf1, hf2⟩ := full_append hf
      have h0 := ho 0 f rfl
      simp at h0
      obtain ⟨x, h1, h2⟩ := hx 0 f rfl
      rw [h0, Nat.sub_self, List.drop_zero] at h1
      rw [← List.take_append_drop (P.cellsOf f.type) cs]
      refine rowEx_append (ih f.type b (ht f List.mem_cons_self) hb hf1 m _ x h1 h2) ?_
      refine struct_ex (m := m) ih fs bs _ (off + P.cellsOf f.type) hbs (fun g hg => ht g (List.mem_cons_of_mem _ hg)) (fun i g hg => ?_) (fun j g hg => ?_) ?_ hf2
      · obtain ⟨y, h3, h4⟩ := hx (i + 1) g (by simpa using hg)
        have h5 := ho (i + 1) g (by simpa using hg)
        simp at h5
        refine ⟨y, ?_, h4⟩
        rw [List.drop_drop, ← h3]
        congr 3
        omega
      · have h5 := ho (j + 1) g (by simpa using hg)
        simp at h5
        simp
        omega
      · simp at hc ⊢
        omega
    · cases hq
theorem array_ex (c : Nat) (qs : List Prim) : ∀ (len : Nat) (cs : List Value), cs.length = len * c → (∀ i, i < len → (Row.ofList qs).full = true → RowEx P w (Row.ofList qs) ((cs.drop (i * c)).take c)) →
    (Row.ofList (List.replicate len qs).flatten).full = true → RowEx P w (Row.ofList (List.replicate len qs).flatten) cs
  | 0, cs, hc, _, _ => by
    simp at hc
    subst hc
    exact rowEx_nil
  | len + 1, cs, hc, hx, hf => by
    rw [List.replicate_succ, List.flatten_cons] at hf ⊢
    obtain ⟨hf1, hf2⟩ := full_append hf
    have h0 := hx 0 (by omega) hf1
    simp at h0
    rw [← List.take_append_drop c cs]
    refine rowEx_append h0 (array_ex c qs len _ (by simp [hc, Nat.succ_mul]) (fun i hi hf => ?_) hf2)
    have := hx (i + 1) (by omega) hf
    rw [List.drop_drop]
    rwa [show c + i * c = (i + 1) * c by rw [Nat.succ_mul]; omega]
theorem prims_ex (hl : laidOutB P = true) : ∀ (n : Nat) (t : TypeId) (ps : List Prim), t < P.types.size → primsOf P n t = some ps → (Row.ofList ps).full = true → ∀ (fuel : Nat) (cs : List Value) (x : DataW H × List MemPlace),
    DataW.trod enc P w 0 sp held fuel t cs = some x → (∀ m ∈ x.1.weights P t, m ≤ reachBytes) → RowEx P w (Row.ofList ps) cs
  | 0, t, ps, _, hp, _, _, _, _, _, _ => by cases hp
  | n + 1, t, ps, htl, hp, hfl, fuel, cs, x, h, hm => by
    simp only [primsOf] at hp
    split at hp
    · rename_i ht
      cases hp
      obtain ⟨b, rfl, _⟩ : ∃ b, cs = [.bool b] ∧ True := by
        cases fuel with
        | zero => simp [DataW.trod] at h
        | succ n =>
          unfold DataW.trod at h
          rw [ht] at h
          split at h <;> simp_all
      exact rowEx_cons ⟨b, rfl, trivial⟩ rowEx_nil
    · rename_i k ht
      cases hp
      obtain ⟨n, rfl, rfl, hw⟩ := DataW.trod_int ht h
      exact rowEx_cons ⟨n, rfl, int_wf hw⟩ rowEx_nil
    · rename_i ht
      cases hp
      obtain ⟨s, rfl, rfl, hw⟩ := DataW.trod_string ht h
      refine rowEx_cons ⟨s, rfl, ?_⟩ rowEx_nil
      have := hm s.data.toList.length (by simp [DataW.weights])
      have h3 : reachBytes = 140737488351232 := by decide
      rw [h3] at this
      have hs : s.data.toList.length = s.size := Array.length_toList
      rw [hs] at this
      exact this
    · rename_i e ht
      split at hp
      · rename_i qs hq
        cases hp
        simp only [Row.ofList, Row.full, Prim.full, Bool.and_eq_true, decide_eq_true_eq] at hfl
        exact slice_ex hfl.1.1 hfl.1.2 (fun fuel cs x hx hmx => prims_ex hl n e qs (kid_slice hl htl ht) hq hfl.1.2 fuel cs x hx hmx) ht h hm
      · cases hp
    · rename_i fs ht
      split at hp
      · rename_i l hq
        cases hp
        obtain ⟨xs, m, rfl, rfl, hcl, hxl, hx⟩ := DataW.trod_struct ht h
        obtain ⟨k1, k2, k3⟩ := kid_struct hl htl ht
        refine struct_ex (P := P) (w := w) (enc := enc) (sp := sp) (held := held) (m := m) (n := n) (fun e qs he hq hf fuel cs x hx hmx => prims_ex hl n e qs he hq hf fuel cs x hx hmx) fs.toList l cs 0 hq k1 (fun i f hf => ?_) (fun j f hf => by rw [k3 j f hf]; omega) (by rw [hcl, k2]) hfl
        have hi : i < xs.length := by
          have := (List.getElem?_eq_some_iff.1 hf).1
          simp at this
          omega
        refine ⟨xs[i], ?_, fun mm hmm => hm mm ?_⟩
        · rw [Nat.sub_zero, hx i f (by simpa using hf)]
          exact List.getElem?_eq_getElem hi
        · simp only [DataW.weights, ht]
          exact DataW.weights_mem_each (j := i) (t := f.type) (d := xs[i].1) (by simp [hf]) (by simp [hi]) mm hmm
      · cases hp
    · rename_i len e ht
      split at hp
      · rename_i qs hq
        cases hp
        obtain ⟨xs, m, rfl, rfl, hcl, hxl, hx⟩ := DataW.trod_array ht h
        obtain ⟨k1, k2⟩ := kid_array hl htl ht
        refine array_ex (P := P) (w := w) (P.cellsOf e) qs len cs (by rw [hcl, k2]) (fun i hi hf => ?_) hfl
        have hi' : i < xs.length := by omega
        refine prims_ex hl n e qs k1 hq hf m _ xs[i] ?_ fun mm hmm => hm mm ?_
        · rw [hx i hi]
          exact List.getElem?_eq_getElem hi'
        · simp only [DataW.weights, ht]
          exact weightsAll_mem (List.mem_map_of_mem (List.getElem_mem hi')) hmm
      · cases hp
    · cases hp
theorem sk_ex (hl : laidOutB P = true) {t : TypeId} {s : Sk} {b0 : Nat} {r : Reach} {v : Value} {d : DataW H} {p : List MemPlace} (hs : skOfT P t = some s) (htl : t < P.types.size) (hfl : s.full = true)
    (hv : Value.okWide P w r b0 t v) (h : DataW.Trod enc P w 0 sp held t v d p) (hm : ∀ m ∈ d.weights P t, m ≤ reachBytes) : ∃ x : s.T, (s.sv x).R w (fun _ => False) (fun _ => none) v ∧ s.wf P x := by
  obtain ⟨fuel, hf⟩ := h
  unfold skOfT at hs
  split at hs
  · rename_i ps hp ha
    cases hs
    obtain ⟨x, hx, hw⟩ := prims_ex hl 8 t ps htl hp (by rw [← skPrims_full]; exact hfl) fuel _ _ hf hm
    have hag : ∃ cs, v = .agg cs := by
      unfold isAggT at ha
      unfold Value.okWide at hv
      split at ha
      · rename_i h2; rw [h2] at hv; obtain ⟨cs, hv, _⟩ := hv; exact ⟨cs, hv⟩
      · rename_i h2; rw [h2] at hv; obtain ⟨cs, hv, _⟩ := hv; exact ⟨cs, hv⟩
      · cases ha
      · cases ha
    obtain ⟨cs, rfl⟩ := hag
    obtain ⟨y, hy, hyw⟩ := skPrims_ex ps cs.toList ⟨x, hx, hw⟩
    exact ⟨y, ⟨cs.toList, rfl, hy, (Row.R_len _ _ _ hx).2⟩, hyw⟩
  · rename_i p hp ha
    cases hs
    obtain ⟨x, hx, hw⟩ := prims_ex hl 8 t [p] htl hp (by simpa [Row.ofList, Row.full, Sk.full] using hfl) fuel _ _ hf hm
    have hna : ∀ cs, v ≠ .agg cs := by
      have hp : primsOf P (7 + 1) t = some [p] := hp
      simp only [primsOf] at hp
      split at hp
      · rename_i ht
        obtain ⟨b, rfl⟩ := WideShapes.okWide_bool ht hv
        intro cs h; cases h
      · rename_i k ht
        obtain ⟨b, rfl⟩ := WideShapes.okWide_int ht hv
        intro cs h; cases h
      · rename_i ht
        obtain ⟨b, rfl⟩ := WideShapes.okWide_string ht hv
        intro cs h; cases h
      · rename_i ht
        obtain ⟨a, l, c, rfl⟩ := WideShapes.okWide_slice ht hv
        intro cs h; cases h
      · rename_i ht
        simp [isAggT, ht] at ha
      · rename_i ht
        simp [isAggT, ht] at ha
      · cases hp
    obtain ⟨u, hu, hp⟩ := hx
    have hvu : v = u := by
      cases v with
      | agg cs => exact (hna cs rfl).elim
      | _ => simpa [Value.cells] using hu
    subst hvu
    exact ⟨x, Prim.R_sv p x v hp, hw⟩
  · cases hs
end
end Go.Proofs.YtgakbdikappdbaaGreat.S2
set_option linter.unusedVariables false
set_option linter.unusedSimpArgs false
namespace Go.Proofs.YtgakbdikappdbaaGreat.S2
open Go Go.RowKit Go.ChangeShapes
theorem away_none {Z : Nat → Prop} (hZ : ∀ b, ¬ Z b) : Loc.away (fun _ => none) Z = fun _ => False := by
  funext b
  apply propext
  constructor
  · rintro (⟨k, l, h, _⟩ | h)
    · cases h
    · exact hZ b h
  · exact False.elim
theorem law_calls {P : Program} {an : Nat → LAnn} {f : FuncId} {fn : Func} {fd : FD} {args : SkL} {F : args.T → Unit → Option (OutsT [⟨.leaf .bool, []⟩])} (hf : FnOK P an f fn fd)
    (hc : ConOK P f ⟨args, [], [⟨.leaf .bool, []⟩], F⟩) {W : World} {vs : List Value} {x : args.T} (hx : SV.RL W (fun _ => False) (fun _ => none) (args.svs x) vs) (hF : F x () = some (true, ())) :
    Calls P f vs.toArray W fun e W' => e = .returned (.bool true) ∧ Below W.heap.size W W' := by
  have hb : fn.body.isSome = true := by
    have := hf.comp
    unfold compFunc at this
    split at this
    · rename_i c h; rw [h]; rfl
    · cases this
  have hm : MR W (fun _ => False) (fun _ => none) [] :=  by
    refine ⟨?_, ?_, ?_, ?_, ?_⟩
    · intro k o h; cases h
    · intro k l h; cases h
    · intro k k' l l' b h; cases h
    · rintro b ⟨k, l, h, _⟩; cases h
    · intro b h; exact h.elim
  have h := hc x () (true, ()) hF W (fun _ => False) (fun _ => none) vs hm (by rw [away_none (fun _ h => h)]; exact hx)
  rcases h with ⟨u, w', h1, _⟩ | ⟨_, h2⟩
  · obtain ⟨hfn, _, hname⟩ := hf
    unfold callFunc at h1
    have h1' : fn.name ≠ "runtime.NumGoroutine" := by simpa using hname
    obtain ⟨c, hc⟩ := Option.isSome_iff_exists.1 hb
    simp [hfn, h1', hc, Sem.run] at h1
  · refine h2.mono fun e W' ⟨u, he, β', hst, _, hu⟩ => ?_
    have hu : u = .bool true := hu
    subst hu
    exact ⟨he, hst.os, hst.tape, hst.output, hst.size, fun b hb => hst.block b hb fun ⟨k, l, h, _⟩ => by cases h⟩
section
variable {H : Type} {enc : TypeId × Value → H} {P : Program} {W W' : World}
theorem SkL.svs_cons_RL {A : Nat → Prop} {β : Loc} {s : Sk} {l : SkL} {x : s.T} {y : l.T} {v : Value} {vs : List Value} (hx : (s.sv x).R W A β v) (hy : SV.RL W A β (l.svs y) vs) (h1 : s.wf P x) (h2 : l.wf P y) :
    ∃ z : (SkL.cons s l).T, SV.RL W A β ((SkL.cons s l).svs z) (v :: vs) ∧ (SkL.cons s l).wf P z := by
  cases s with
  | const c => exact ⟨y, ⟨v, vs, rfl, hx, hy⟩, h2⟩
  | leaf p => exact ⟨(x, y), ⟨v, vs, rfl, hx, hy⟩, h1, h2⟩
  | piece k => exact ⟨(x, y), ⟨v, vs, rfl, hx, hy⟩, h2⟩
  | agg l' => exact ⟨(x, y), ⟨v, vs, rfl, hx, hy⟩, h1, h2⟩
  | tup l' => exact ⟨(x, y), ⟨v, vs, rfl, hx, hy⟩, h1, h2⟩
  | fn f l' => exact ⟨(x, y), ⟨v, vs, rfl, hx, hy⟩, h1, h2⟩
theorem args_ex (hl : laidOutB P = true) {sp : Nat → Bool} {held : Bool} {b0 : Nat} {r : Reach} : ∀ (ts : List TypeId) (l : SkL) (vs : List Value) (ds : List (DataW H)) (p : List MemPlace), skArgs P ts = some l → l.full = true → (∀ t ∈ ts, t < P.types.size) →
    (∀ (j : Nat) t v, ts[j]? = some t → vs[j]? = some v → Value.okWide P W r b0 t v) → DataW.TrodAll enc P W 0 sp held ts vs ds p → (∀ m ∈ DataW.weightsEach P ts ds, m ≤ reachBytes) →
    ∃ x : l.T, SV.RL W (fun _ => False) (fun _ => none) (l.svs x) vs ∧ l.wf P x
  | [], l, vs, ds, p, hs, _, _, _, h, _ => by
    cases hs
    obtain ⟨rfl, rfl, rfl⟩ := trodAll_nil h
    exact ⟨(), rfl, trivial⟩
  | t :: ts, l, vs, ds, p, hs, hf, ht, hv, h, hm => by
    simp only [skArgs] at hs
    split at hs
    · rename_i s r' h1 h2
      cases hs
      simp only [SkL.full, Bool.and_eq_true] at hf
      obtain ⟨v, vs', d, ds', p1, p2, rfl, rfl, rfl, h3, h4⟩ := trodAll_cons h
      obtain ⟨x, hx, hxw⟩ := sk_ex hl h1 (ht t List.mem_cons_self) hf.1 (hv 0 t v rfl rfl) h3 fun m hmm => hm m (by simp only [DataW.weightsEach, List.mem_append]; exact .inl hmm)
      obtain ⟨y, hy, hyw⟩ := args_ex hl ts r' vs' ds' p2 h2 hf.2 (fun t ht' => ht t (List.mem_cons_of_mem _ ht')) (fun j t v hj hw => hv (j + 1) t v (by simpa using hj) (by simpa using hw)) h4
        fun m hmm => hm m (by simp only [DataW.weightsEach, List.mem_append]; exact .inr hmm)
      exact SkL.svs_cons_RL hx hy hxw hyw
    · cases hs
theorem trodAll_below (hl : laidOutB P = true) (hb : Below W.heap.size W W') : ∀ (ts : List TypeId) (vs : List Value) (ds : List (DataW H)) (p : List MemPlace), (∀ t ∈ ts, t < P.types.size) → (∀ t ∈ ts, P.readableRec t = true) →
    DataW.TrodAll enc P W 0 (fun _ => true) true ts vs ds p → DataW.TrodAll enc P W' 0 (fun b => decide (b < W.heap.size)) true ts vs ds p
  | [], vs, ds, p, _, _, h => by
    obtain ⟨rfl, rfl, rfl⟩ := trodAll_nil h
    exact trodAll_mk0
  | t :: ts, vs, ds, p, ht, hr, h => by
    obtain ⟨v, vs', d, ds', p1, p2, rfl, rfl, rfl, h3, h4⟩ := trodAll_cons h
    have hlt : ∀ x ∈ p1, x.block < W.heap.size := by
      obtain ⟨m, hm⟩ := h3
      exact DataW.trod_lt m _ _ _ hm
    exact trodAll_cons_mk (Below.trod hl (hr t List.mem_cons_self) (ht t List.mem_cons_self) h3 hb hlt) (trodAll_below hl hb ts vs' ds' p2 (fun t h => ht t (List.mem_cons_of_mem _ h)) (fun t h => hr t (List.mem_cons_of_mem _ h)) h4)
end
theorem law_lifted {H : Type} {enc : TypeId × Value → H} {C : Checked} {os : Os} {f : FuncId} {fn : Func} {s : ChangeSpec} {conds : List PathCond} {l : SkL} {tb : TypeId}
    (own : ownKnob C.prog.godebug = none) (started : os.Started) (noInit : C.prog.inits.idxOf? f = none) (hfn : C.prog.funcs[f]? = some fn)
    (witness : ∃ (w : World) (tape : Tape) (i : Input), w.os = os ∧ (w.forCall tape i).Shaped C.prog ∧ i.vars = [] ∧ Input.okWide C.prog (w.forCall tape i) .any w.heap.size f i ∧
      s.pre6 enc C.prog fn conds false (w.forCall tape i).memory i.args ∧ ({} : Assume).holds C.prog (lone (Frame.enter C.prog f i.args .normal) [] (w.forCall tape i)))
    (hvars : s.vars = []) (hspec : ∀ ds : List (DataW H), ds.length = fn.params.toList.length → s.fn H ds = { results := [.lit (.bool true)], args := ds }) (hres : fn.resultTypes = #[tb]) (htb : C.prog.underlying tb = some .bool)
    (laid : laidOutB C.prog = true) (hts : fn.params.toList.all (fun t => decide (t < C.prog.types.size) && C.prog.readableRec t) = true) (hsk : skArgs C.prog fn.params.toList = some l) (hfull : l.full = true)
    (hcalls : ∀ (W : World) (vs : List Value) (x : l.T), SV.RL W (fun _ => False) (fun _ => none) (l.svs x) vs → l.wf C.prog x → Calls C.prog f vs.toArray W fun e W' => e = .returned (.bool true) ∧ Below W.heap.size W W') :
    ReturnsInHanded {} C os f .any (s.pre6 enc C.prog fn conds false) (s.post enc C.prog fn false true false false) := by
  refine returnsInHanded_of_change_sized own started noInit hfn witness ?_
  intro W base args ds gs before hval hW hcnd hsz _
  have hW' := hW
  obtain ⟨p, q, hA, hV, rfl, hfz, hnd⟩ := hW
  rw [hvars] at hV
  obtain ⟨rfl, rfl⟩ := trodVars_none hV
  have ht1 : ∀ t ∈ fn.params.toList, t < C.prog.types.size := fun t ht => by
    have := List.all_eq_true.1 hts t ht
    simp only [Bool.and_eq_true, decide_eq_true_eq] at this
    exact this.1
  have ht2 : ∀ t ∈ fn.params.toList, C.prog.readableRec t = true := fun t ht => by
    have := List.all_eq_true.1 hts t ht
    simp only [Bool.and_eq_true, decide_eq_true_eq] at this
    exact this.2
  have hlen : ∀ (ts : List TypeId) (vs : List Value) (ds : List (DataW H)) (p : List MemPlace), DataW.TrodAll enc C.prog W 0 (fun _ => true) true ts vs ds p → ds.length = ts.length := by
    intro ts
    induction ts with
    | nil => intro vs ds p h; obtain ⟨_, rfl, _⟩ := trodAll_nil h; rfl
    | cons t ts ih =>
      intro vs ds p h
      obtain ⟨v, vs', d, ds', p1, p2, rfl, rfl, rfl, h3, h4⟩ := trodAll_cons h
      simp [ih _ _ _ h4]
  have hweights : ∀ m ∈ DataW.weightsEach C.prog fn.params.toList ds, m ≤ reachBytes := by
    intro m hm
    have key : ∀ (ts : List TypeId) (ds : List (DataW H)) (ts' : List TypeId) (ds' : List (DataW H)), m ∈ DataW.weightsEach C.prog ts ds → m ∈ DataW.weightsEach C.prog (ts ++ ts') (ds ++ ds') := by
      intro ts
      induction ts with
      | nil => intro ds ts' ds' h; simp [DataW.weightsEach] at h
      | cons t ts ih =>
        intro ds ts' ds' h
        cases ds with
        | nil => simp [DataW.weightsEach] at h
        | cons d ds =>
          simp only [List.cons_append, DataW.weightsEach, List.mem_append] at h ⊢
          rcases h with h | h
          · exact .inl h
          · exact .inr (ih ds ts' ds' h)
    have := List.all_eq_true.1 hsz m (key _ _ _ _ hm)
    simpa using this
  obtain ⟨x, hx, hxw⟩ := args_ex laid fn.params.toList l args.toList ds p hsk hfull ht1 (fun j t v hj hv => hval j t v (by simpa using hj) (by simpa using hv)) hA hweights
  refine ((hcalls W args.toList x hx hxw)).mono fun e W' ⟨he, bel⟩ => ?_
  subst he
  refine ⟨_, rfl, ds, [], p ++ [], [], p, [], hW', ?_, ?_, ?_, bel.frame _, fun h => by cases h⟩
  · rw [List.append_nil, hspec ds (hlen _ _ _ _ hA), hres]
    exact trodAll_mk1 ⟨1, by simp [DataW.trod, Value.cells, htb]⟩
  · rw [List.append_nil, hspec ds (hlen _ _ _ _ hA)]
    exact trodAll_below laid bel _ _ _ _ ht1 ht2 hA
  · rw [hvars, List.append_nil, hspec ds (hlen _ _ _ _ hA)]
    rfl
end Go.Proofs.YtgakbdikappdbaaGreat.S2
namespace Go.Proofs.YtgakbdikappdbaaGreat.S2
open Go
def AllCon (P : Program) : List (Nat × Con) → Prop
  | [] => True
  | p :: l => ConOK P p.1 p.2 ∧ AllCon P l
def AllLCon (P : Program) (fd : FD) : List (Nat × LCon) → Prop
  | [] => True
  | p :: l => ItemOK P fd p ∧ AllLCon P fd l
theorem AllCon.mem {P : Program} : ∀ {l : List (Nat × Con)}, AllCon P l → ∀ p, p ∈ l → ConOK P p.1 p.2
  | [], _, p, h => by cases h
  | q :: l, h, p, hp => by
    rcases List.mem_cons.1 hp with rfl | hp
    · exact h.1
    · exact AllCon.mem h.2 p hp
theorem AllLCon.mem {P : Program} {fd : FD} : ∀ {l : List (Nat × LCon)}, AllLCon P fd l → ∀ p, p ∈ l → ItemOK P fd p
  | [], _, p, h => by cases h
  | q :: l, h, p, hp => by
    rcases List.mem_cons.1 hp with rfl | hp
    · exact h.1
    · exact AllLCon.mem h.2 p hp
theorem known_of {P : Program} {fd : FD} {calls : List (Nat × Con)} {loops : List (Nat × LCon)} (mix : P.follows .mixedOrders = true) (ids : distinct (loopIds (loopsOf fd.body)) = true) (hc : AllCon P calls) (hl : AllLCon P fd loops) : Known P fd calls loops :=
  ⟨mix, ids, hc.mem, hl.mem⟩
end Go.Proofs.YtgakbdikappdbaaGreat.S2
namespace Go.Proofs.YtgakbdikappdbaaGreat.S2
open Go
theorem call_of {P : Program} {fd : FD} {calls : List (Nat × Con)} {loops : List (Nat × LCon)} {byRef : FuncId → CC} (k : Known P fd calls loops) {an : Nat → LAnn} {f : FuncId} {fn : Func} (hf : FnOK P an f fn fd) (rc : RC) {args : List SV} {m m' : Mem} {v : SV}
    (h : callBody (table calls loops) byRef rc fd args m (fun v m => some (v, m)) = some (v, m')) : CallOK P f args m v m' := callBody_sound k.ok k.mix hf k.self h
theorem empty_cases {w : World} {A : Nat → Prop} {β : Loc} {e : TypeId} {r : Row} {v : Value} (h : (SV.ps e r []).R w A β v) : SV.nils.R w A β v ∨ SV.pe.R w A β v := by
  simp only [SV.R, Prim.R] at h
  obtain ⟨ad, cap, hv, hcap, _⟩ := h
  cases ad with
  | none =>
    have := hcap.2 rfl
    subst this
    exact .inl hv
  | some a => exact .inr ⟨a, cap, hv⟩
theorem con_slc {P : Program} {f : FuncId} {e : TypeId} {r : Row} {outs : List OutC} {F : (List r.T × Unit) → Unit → Option (OutsT outs)}
    (h0 : ∀ o, F ([], ()) () = some o → CallOK P f [.nils] [] (outsGet outs o).1 (outsGet outs o).2)
    (h1 : ∀ o, F ([], ()) () = some o → CallOK P f [.pe] [] (outsGet outs o).1 (outsGet outs o).2)
    (h2 : ∀ x xs o, F (x :: xs, ()) () = some o → CallOK P f [.ps e r (x :: xs)] [] (outsGet outs o).1 (outsGet outs o).2) : ConOK P f ⟨.cons (.leaf (.slc e r)) .nil, [], outs, F⟩ := by
  rintro ⟨xs, ⟨⟩⟩ ⟨⟩ o ho w Z β vs hm hx
  obtain ⟨v, vs', rfl, hv, rfl⟩ := hx
  cases xs with
  | nil =>
    rcases empty_cases hv with hn | hn
    · exact h0 o ho w Z β _ hm ⟨v, [], rfl, hn, rfl⟩
    · exact h1 o ho w Z β _ hm ⟨v, [], rfl, hn, rfl⟩
  | cons x xs => exact h2 x xs o ho w Z β _ hm ⟨v, [], rfl, hv, rfl⟩
end Go.Proofs.YtgakbdikappdbaaGreat.S2
namespace Go.Proofs.YtgakbdikappdbaaGreat.S2
open Go
theorem wf_u64 {P : Program} {n : Int} (h : (Prim.int .u64).wf P n) : 0 ≤ n ∧ n < 18446744073709551616 := by
  have h : IntKind.u64.min ≤ n ∧ n ≤ IntKind.u64.max := h
  simp [IntKind.min, IntKind.max, IntKind.signed, IntKind.bits] at h
  omega
theorem wf_slc {P : Program} {e : TypeId} {r : Row} {xs : List r.T} {n : Nat} (h : (Prim.slc e r).wf P xs) (hn : P.bytesOf e = n) : List.length (α := r.T) xs * n ≤ 140737488351232 ∧ ∀ j (h : j < List.length (α := r.T) xs), r.wf P (List.get (α := r.T) xs ⟨j, h⟩) := by
  subst hn
  exact h
end Go.Proofs.YtgakbdikappdbaaGreat.S2
namespace Go.Proofs.YtgakbdikappdbaaGreat.S2
open Go Go.RowKit
theorem call_of_calls {P : Program} {f : FuncId} {fn : Func} (hfn : P.funcs[f]? = some fn) (hname : (fn.name == "runtime.NumGoroutine") = false) (hb : fn.body.isSome = true) {vs : Array Value} {w : World} {Post : Value → World → Prop}
    (h : Calls P f vs w fun e w' => ∃ u, e = .returned u ∧ Post u w') : CallRun P f vs w Post := by
  refine .inr ⟨?_, h⟩
  unfold callFunc
  have h1 : fn.name ≠ "runtime.NumGoroutine" := by simpa using hname
  obtain ⟨c, hc⟩ := Option.isSome_iff_exists.1 hb
  simp [hfn, h1, hc, Sem.run]
end Go.Proofs.YtgakbdikappdbaaGreat.S2
namespace Go.Proofs.YtgakbdikappdbaaGreat.S2
open Go
end Go.Proofs.YtgakbdikappdbaaGreat.S2
