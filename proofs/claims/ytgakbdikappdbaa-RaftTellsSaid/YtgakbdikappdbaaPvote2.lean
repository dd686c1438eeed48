/- Votes and members: what is counted, and what one change makes. -/
import Derived.Test.YtgakbdikappdbaaPvote1
import Derived.Test.YtgakbdikappdbaaGstart
set_option linter.unusedVariables false
set_option linter.unusedSimpArgs false
namespace Go.Proofs.Ytgakbdikappdbaa.S2
open Go
def above (out : List Int) (x : Int) : Prop := ∀ y ∈ out, y < x
instance (out : List Int) (x : Int) : Decidable (above out x) := by unfold above; infer_instance
theorem above_last {out : List Int} (hr : out.Pairwise (fun x y => x < y)) (h0 : out.length ≠ 0) (x : Int) : above out x ↔ out.getD (out.length - 1) 0 < x := by
  constructor
  · intro h; exact h _ (getD_mem (by omega))
  · intro h y hy
    obtain ⟨j, hj, hjx⟩ := List.getElem_of_mem hy
    have hle := sorted_at (hr.imp fun {a b} h => Int.le_of_lt h) (i := j) (j := out.length - 1) (by omega) (by omega)
    have : y = out.getD j 0 := by rw [← hjx, List.getD_eq_getElem?_getD, List.getElem?_eq_getElem hj]; rfl
    omega
def Found (out l : List Int) (found : Bool) (least : Int) : Prop :=
  match found with
  | false => ∀ x ∈ l, ¬ above out x
  | true => least ∈ l ∧ above out least ∧ ∀ x ∈ l, above out x → least ≤ x
theorem Found.snoc_not {out l : List Int} {f : Bool} {n x : Int} (h : Found out l f n) (hx : ¬ above out x) : Found out (l ++ [x]) f n := by
  cases f with
  | false =>
    intro y hy
    rcases List.mem_append.1 hy with hy | hy
    · exact h y hy
    · rw [List.mem_singleton.1 hy]; exact hx
  | true =>
    obtain ⟨h1, h2, h3⟩ := h
    refine ⟨List.mem_append_left _ h1, h2, fun y hy ha => ?_⟩
    rcases List.mem_append.1 hy with hy | hy
    · exact h3 y hy ha
    · rw [List.mem_singleton.1 hy] at ha; exact absurd ha hx
theorem Found.snoc_new {out l : List Int} {f : Bool} {n x : Int} (h : Found out l f n) (hx : above out x) (hn : f = true → x < n) : Found out (l ++ [x]) true x := by
  refine ⟨List.mem_append_right _ (List.mem_singleton_self _), hx, fun y hy ha => ?_⟩
  rcases List.mem_append.1 hy with hy | hy
  · cases f with
    | false => exact absurd ha (h y hy)
    | true => have := h.2.2 y hy ha; have := hn rfl; omega
  · rw [List.mem_singleton.1 hy]; exact Int.le_refl _
theorem Found.snoc_old {out l : List Int} {n x : Int} (h : Found out l true n) (hn : n ≤ x) : Found out (l ++ [x]) true n := by
  obtain ⟨h1, h2, h3⟩ := h
  refine ⟨List.mem_append_left _ h1, h2, fun y hy ha => ?_⟩
  rcases List.mem_append.1 hy with hy | hy
  · exact h3 y hy ha
  · rw [List.mem_singleton.1 hy]; exact hn
theorem once_inner (l out : List Int) (hl : l.length ≤ 17592186044416) (ho : out.length ≤ 17592186044416) (hr : out.Pairwise (fun x y => x < y)) : ∀ (r i : Nat) (f : Bool) (n : Int), i + r = l.length → Found out (l.take i) f n →
    ∃ f' n', L_ref16_Once_5 (l, f, n, (i : Int), ()) (out, ()) = some ((l, f', n', ()), (out, ())) ∧ Found out l f' n'
  | 0, i, f, n, hi, hF => by
    rw [Le_ref16_Once_5]
    unfold ltree_ref16_Once_5
    rw [cd_f (by omega)]
    rw [List.take_of_length_le (by omega)] at hF
    exact ⟨f, n, rfl, hF⟩
  | r + 1, i, f, n, hi, hF => by
    rw [Le_ref16_Once_5]
    unfold ltree_ref16_Once_5
    have e1 : IntKind.i64.wrap ((i : Int) + 1) = ((i + 1 : Nat) : Int) := by rw [i64id] <;> omega
    have htk : l.take (i + 1) = l.take i ++ [l.getD i 0] := take_one (by omega)
    have go := fun f n (h : Found out (l.take i ++ [l.getD i 0]) f n) => once_inner l out hl ho hr r (i + 1) f n (by omega) (by rw [htk]; exact h)
    by_cases h0 : out.length = 0
    · have hab : above out (l.getD i 0) := by
        rw [List.length_eq_zero_iff.1 h0]
        intro y hy; cases hy
      rw [cd_t (by omega), c_t (beq_iff_eq.2 (by omega))]
      simp (disch := omega) only [Int.toNat_natCast, cd_t, e1]
      cases f with
      | false =>
        simp only [Bool.not_false, cond_true]
        exact go _ _ (hF.snoc_new hab (by intro h; cases h))
      | true =>
        simp only [Bool.not_true, cond_false]
        by_cases hc : l.getD i 0 < n
        · rw [cd_t hc]; exact go _ _ (hF.snoc_new hab (fun _ => hc))
        · rw [cd_f hc]; exact go _ _ (hF.snoc_old (by omega))
    · have e2 : IntKind.i64.wrap ((out.length : Int) - 1) = ((out.length - 1 : Nat) : Int) := by rw [i64id] <;> omega
      rw [cd_t (by omega), c_f (beq_false_of_ne (by omega))]
      simp (disch := omega) only [Int.toNat_natCast, cd_t, e1, e2, Nat.zero_add]
      by_cases hab : above out (l.getD i 0)
      · rw [cd_t ((above_last hr h0 _).1 hab)]
        cases f with
        | false =>
          simp only [Bool.not_false, cond_true]
          exact go _ _ (hF.snoc_new hab (by intro h; cases h))
        | true =>
          simp only [Bool.not_true, cond_false]
          by_cases hc : l.getD i 0 < n
          · rw [cd_t hc]; exact go _ _ (hF.snoc_new hab (fun _ => hc))
          · rw [cd_f hc]; exact go _ _ (hF.snoc_old (by omega))
      · rw [cd_f (fun h => hab ((above_last hr h0 _).2 h))]
        exact go _ _ (hF.snoc_not hab)
theorem filter_lt {p q : Int → Bool} : ∀ (l : List Int), (∀ x ∈ l, p x = true → q x = true) → (∃ x ∈ l, q x = true ∧ p x = false) → (l.filter p).length < (l.filter q).length
  | [], _, h => by obtain ⟨x, hx, _⟩ := h; cases hx
  | y :: l, h1, h2 => by
    have hle : ∀ (l : List Int), (∀ x ∈ l, p x = true → q x = true) → (l.filter p).length ≤ (l.filter q).length := by
      intro l
      induction l with
      | nil => intro _; exact Nat.le_refl _
      | cons z l ih =>
        intro h
        have := ih fun x hx => h x (List.mem_cons_of_mem _ hx)
        rw [List.filter_cons, List.filter_cons]
        cases hp : p z with
        | true => rw [h z (List.mem_cons_self ..) hp]; simpa using this
        | false => cases q z <;> simp <;> omega
    have h1' := hle l fun x hx => h1 x (List.mem_cons_of_mem _ hx)
    obtain ⟨x, hx, hq, hp⟩ := h2
    rw [List.filter_cons, List.filter_cons]
    rcases List.mem_cons.1 hx with rfl | hx
    · rw [hq, hp]; simp; omega
    · have := filter_lt l (fun x hx => h1 x (List.mem_cons_of_mem _ hx)) ⟨x, hx, hq, hp⟩
      cases hpy : p y with
      | true => rw [h1 y (List.mem_cons_self ..) hpy]; simp; omega
      | false => cases q y <;> simp <;> omega
theorem once_outer (l : List Int) (hl : l.length ≤ 1000) : ∀ (r : Nat) (out : List Int), (l.filter fun x => decide (above out x)).length ≤ r → out.length + (l.filter fun x => decide (above out x)).length ≤ l.length → out.Pairwise (fun x y => x < y) → (∀ x ∈ out, x ∈ l) → (∀ x ∈ l, ¬ above out x → x ∈ out) →
    L_ref16_Once_2 (l, ()) (out, ()) = some ((), (onceS l, ())) := by
  intro r
  induction r with
  | zero =>
    intro out hr hlen hp h1 h2
    rw [Le_ref16_Once_2]
    unfold ltree_ref16_Once_2
    obtain ⟨f, n, hL, hF⟩ := once_inner l out (by omega) (by omega) hp l.length 0 false 0 (by omega) (by intro x hx; cases hx)
    have hL : L_ref16_Once_5 (l, false, 0, 0, ()) (out, ()) = _ := hL
    rw [hL]
    cases f with
    | false =>
      simp only [Option.bind_some, Bool.not_false, cond_true]
      rw [onceS_eq hp fun x => ⟨h1 x, fun hx => h2 x hx (hF x hx)⟩]
    | true =>
      have : n ∈ l.filter fun x => decide (above out x) := List.mem_filter.2 ⟨hF.1, decide_eq_true hF.2.1⟩
      rw [List.length_eq_zero_iff.1 (Nat.le_zero.1 hr)] at this
      cases this
  | succ r ih =>
    intro out hr hlen hp h1 h2
    rw [Le_ref16_Once_2]
    unfold ltree_ref16_Once_2
    obtain ⟨f, n, hL, hF⟩ := once_inner l out (by omega) (by omega) hp l.length 0 false 0 (by omega) (by intro x hx; cases hx)
    have hL : L_ref16_Once_5 (l, false, 0, 0, ()) (out, ()) = _ := hL
    rw [hL]
    cases f with
    | false =>
      simp only [Option.bind_some, Bool.not_false, cond_true]
      rw [onceS_eq hp fun x => ⟨h1 x, fun hx => h2 x hx (hF x hx)⟩]
    | true =>
      obtain ⟨g1, g2, g3⟩ := hF
      have hsub : ∀ x, above (out ++ [n]) x → above out x := fun x h y hy => h y (List.mem_append_left _ hy)
      have hlt := filter_lt (p := fun x => decide (above (out ++ [n]) x)) (q := fun x => decide (above out x)) l (fun x hx h => decide_eq_true (hsub x (of_decide_eq_true h)))
        ⟨n, g1, decide_eq_true g2, decide_eq_false fun h => by have := h n (List.mem_append_right _ (List.mem_singleton_self _)); omega⟩
      simp only [Option.bind_some, Bool.not_true, cond_false]
      rw [cd_t (by omega), List.nil_append]
      refine ih (out ++ [n]) (by omega) (by rw [List.length_append]; simp only [List.length_cons, List.length_nil]; omega) ?_ ?_ ?_
      · rw [List.pairwise_append]
        exact ⟨hp, List.pairwise_singleton _ _, fun x hx y hy => by rw [List.mem_singleton.1 hy]; exact g2 x hx⟩
      · intro x hx
        rcases List.mem_append.1 hx with hx | hx
        · exact h1 x hx
        · rw [List.mem_singleton.1 hx]; exact g1
      · intro x hx hna
        by_cases ha : above out x
        · have hle := g3 x hx ha
          have : ¬ n < x := fun hlt => hna fun y hy => by
            rcases List.mem_append.1 hy with hy | hy
            · exact ha y hy
            · rw [List.mem_singleton.1 hy]; exact hlt
          rw [show x = n by omega]
          exact List.mem_append_right _ (List.mem_singleton_self _)
        · exact List.mem_append_left _ (h2 x hx ha)
theorem e_ref_Once {l : List Int} (h : l.length ≤ 1000) : F_ref16_Once (l, ()) () = some (onceS l, ()) := by
  rw [Fe_ref16_Once]
  unfold tree_ref16_Once
  rw [once_outer l h _ [] (Nat.le_refl _) (by simp only [List.length_nil, Nat.zero_add]; exact List.length_filter_le _ _) List.Pairwise.nil (fun x hx => by cases hx) (fun x hx hna => absurd (fun y hy => by cases hy) hna)]
  rfl
end Go.Proofs.Ytgakbdikappdbaa.S2
