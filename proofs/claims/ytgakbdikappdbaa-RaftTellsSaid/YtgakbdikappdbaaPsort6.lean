/- The library's sort, at uint64: the whole. -/
import Derived.Test.YtgakbdikappdbaaPsort5
set_option linter.unusedVariables false
set_option linter.unusedSimpArgs false
namespace Go.Proofs.Ytgakbdikappdbaa.S2
open Go Go.Sort
abbrev FP := A_slices_pdqsortOrdered_uint64 → M_slices_pdqsortOrdered_uint64 → Option O_slices_pdqsortOrdered_uint64
def Sorts (F : FP) (m : Nat) : Prop := ∀ (a b limit : Nat) (d : Array Int), a ≤ b → b ≤ d.size → d.size ≤ 255 → limit ≤ 1000 → Go.Sort.Below ltInt a b d → b - a ≤ m →
  ∃ d' : Array Int, F ((a : Int), (b : Int), (limit : Int), ()) (d.toList, ()) = some ((), (d'.toList, ())) ∧ PermIn a b d d' ∧ SortedIn ltInt a b d'
def PdqOK (F : FP) (a b limit : Nat) (wb wp : Bool) (d : Array Int) : Prop :=
  ∃ d' : Array Int, L_slices_pdqsortOrdered_uint64_2 F ((a : Int), (b : Int), (limit : Int), wb, wp, ()) (d.toList, ()) = some ((), (d'.toList, ())) ∧ PermIn a b d d' ∧ SortedIn ltInt a b d'
noncomputable def partS (F : FP) (l x1 x2 x3 pv : Int) (xs : List Int) : Option LO_slices_pdqsortOrdered_uint64_2 :=
  (F_slices_partitionOrdered_uint64 (x1, x2, pv, ()) (xs, ())).bind fun r17 =>
  cond (decide (IntKind.i64.wrap (r17.fst.fst - x1) < IntKind.i64.wrap (x2 - r17.fst.fst)))
  ((F (x1, r17.fst.fst, x3, ()) (r17.snd.fst, ())).bind fun r18 =>
    L_slices_pdqsortOrdered_uint64_2 F (IntKind.i64.wrap (r17.fst.fst + 1), (x2, (x3, (decide (IntKind.i64.wrap (r17.fst.fst - x1) ≥ IntKind.i64.wrap (l.tdiv 8)), (r17.fst.snd.fst, ()))))) (r18.snd.fst, ()))
  ((F (IntKind.i64.wrap (r17.fst.fst + 1), x2, x3, ()) (r17.snd.fst, ())).bind fun r19 =>
    L_slices_pdqsortOrdered_uint64_2 F (x1, (r17.fst.fst, (x3, (decide (IntKind.i64.wrap (x2 - r17.fst.fst) ≥ IntKind.i64.wrap (l.tdiv 8)), (r17.fst.snd.fst, ()))))) (r19.snd.fst, ()))
noncomputable def restS (F : FP) (l x1 x2 x3 : Int) (x4 x5 : Bool) (pv : Int) (xs : List Int) : Option LO_slices_pdqsortOrdered_uint64_2 :=
  cond (decide (x1 > 0))
  (cond (decide (0 ≤ IntKind.i64.wrap (x1 - 1)))
   (cond (decide (IntKind.i64.wrap (x1 - 1) < (↑xs.length : Int)))
    (cond (decide (0 ≤ pv))
     (cond (decide (pv < (↑xs.length : Int)))
      ((F_cmp_Less_uint64 (xs.getD (0 + (IntKind.i64.wrap (x1 - 1)).toNat) 0, xs.getD (0 + pv.toNat) 0, ()) ()).bind fun r15 =>
       cond (!r15.fst)
       ((F_slices_partitionEqualOrdered_uint64 (x1, x2, pv, ()) (xs, ())).bind fun r16 =>
         L_slices_pdqsortOrdered_uint64_2 F (r16.fst, (x2, (x3, (x4, (x5, ()))))) (r16.snd.fst, ()))
       (partS F l x1 x2 x3 pv xs))
      none) none) none) none)
  (partS F l x1 x2 x3 pv xs)
theorem part_ok {F : FP} {m : Nat} (hF : Sorts F m) {a b lim pv : Nat} {d : Array Int} (h1 : a ≤ pv) (h2 : pv < b) (hb : b ≤ d.size) (hd : d.size ≤ 255) (hl : lim ≤ 1000) (hB : Go.Sort.Below ltInt a b d) (hm : b - a ≤ 2 * m + 1)
    (ih : ∀ (a' b' : Nat) (wb wp : Bool) (d' : Array Int), b' - a' < b - a → a ≤ a' → a' ≤ b' → b' ≤ b → d'.size = d.size → Go.Sort.Below ltInt a' b' d' → PdqOK F a' b' lim wb wp d') :
    ∃ d' : Array Int, partS F ((b - a : Nat) : Int) (a : Int) (b : Int) (lim : Int) (pv : Int) d.toList = some ((), (d'.toList, ())) ∧ PermIn a b d d' ∧ SortedIn ltInt a b d' := by
  unfold partS
  have hrp := round_part swo_ltInt (partition_holds ltInt) (d3 := d) (d4 := (partition ltInt d a b pv).2.2) (mid := (partition ltInt d a b pv).1) (ap := (partition ltInt d a b pv).2.1) h1 h2 hb hB rfl
  obtain ⟨g1, g2, hs4, hBa, hBr, hleft, hright⟩ := hrp
  rw [e_partition h1 h2 hb (by omega) g2]
  simp only [Option.bind_some]
  generalize partition ltInt d a b pv = q at *
  obtain ⟨mid, ap, d4⟩ := q
  dsimp only at g1 g2 hs4 hBa hBr hleft hright ⊢
  rw [show IntKind.i64.wrap ((mid : Int) - (a : Int)) = ((mid - a : Nat) : Int) by rw [i64id] <;> omega, show IntKind.i64.wrap ((b : Int) - (mid : Int)) = ((b - mid : Nat) : Int) by rw [i64id] <;> omega,
    show IntKind.i64.wrap ((mid : Int) + 1) = ((mid + 1 : Nat) : Int) by rw [i64id] <;> omega]
  by_cases hc : mid - a < b - mid
  · rw [cd_t (by omega)]
    obtain ⟨L, hL, l1, l2⟩ := hF a mid lim d4 g1 (by omega) (by omega) hl hBa (by omega)
    rw [hL]
    simp only [Option.bind_some]
    obtain ⟨hBL, hfin⟩ := hleft L l1 l2
    obtain ⟨R, hR, r1, r2⟩ := ih (mid + 1) b _ ap L (by omega) (by omega) (by omega) (Nat.le_refl _) (by rw [l1.1, hs4]) hBL
    exact ⟨R, hR, hfin R r1 r2⟩
  · rw [cd_f (by omega)]
    obtain ⟨L, hL, l1, l2⟩ := hF (mid + 1) b lim d4 (by omega) (by omega) (by omega) hl hBr (by omega)
    rw [hL]
    simp only [Option.bind_some]
    obtain ⟨hBL, hfin⟩ := hright L l1 l2
    obtain ⟨R, hR, r1, r2⟩ := ih a mid _ ap L (by omega) (Nat.le_refl _) g1 (by omega) (by rw [l1.1, hs4]) hBL
    exact ⟨R, hR, hfin R r1 r2⟩
theorem rest_ok {F : FP} {m : Nat} (hF : Sorts F m) {a b lim pv : Nat} {d : Array Int} {wb wp : Bool} (h1 : a ≤ pv) (h2 : pv < b) (hb : b ≤ d.size) (hd : d.size ≤ 255) (hl : lim ≤ 1000) (hB : Go.Sort.Below ltInt a b d) (hm : b - a ≤ 2 * m + 1)
    (ih : ∀ (a' b' : Nat) (wb wp : Bool) (d' : Array Int), b' - a' < b - a → a ≤ a' → a' ≤ b' → b' ≤ b → d'.size = d.size → Go.Sort.Below ltInt a' b' d' → PdqOK F a' b' lim wb wp d') :
    ∃ d' : Array Int, restS F ((b - a : Nat) : Int) (a : Int) (b : Int) (lim : Int) wb wp (pv : Int) d.toList = some ((), (d'.toList, ())) ∧ PermIn a b d d' ∧ SortedIn ltInt a b d' := by
  unfold restS
  have hpart := part_ok hF h1 h2 hb hd hl hB hm ih
  by_cases ha : a > 0
  · rw [cd_t (by omega), show IntKind.i64.wrap ((a : Int) - 1) = ((a - 1 : Nat) : Int) by rw [i64id] <;> omega]
    simp (disch := omega) only [Int.toNat_natCast, getL0, Array.length_toList, cd_t, e_less, Option.bind_some]
    cases hc : ltInt d[a - 1]! d[pv]! with
    | true => exact hpart
    | false =>
      simp only [Bool.not_false, cond_true]
      rw [e_partitionEqual h1 h2 hb (by omega)]
      simp only [Option.bind_some]
      obtain ⟨g1, g2, hs4, hB4, hfin⟩ := round_eq swo_ltInt (partitionEqual_holds ltInt) (d3 := d) (d4 := (partitionEqual ltInt d a b pv).2) (mid := (partitionEqual ltInt d a b pv).1) ha h1 h2 hb hB hc rfl
      obtain ⟨R, hR, r1, r2⟩ := ih _ b wb wp _ (by omega) (by omega) g2 (Nat.le_refl _) hs4 hB4
      exact ⟨R, hR, hfin R r1 r2⟩
  · rw [cd_f (by omega)]
    exact hpart
theorem permSorted_trans {a b : Nat} {d d2 : Array Int} (h : PermIn a b d d2) {x : Option LO_slices_pdqsortOrdered_uint64_2} (hx : ∃ d' : Array Int, x = some ((), (d'.toList, ())) ∧ PermIn a b d2 d' ∧ SortedIn ltInt a b d') :
    ∃ d' : Array Int, x = some ((), (d'.toList, ())) ∧ PermIn a b d d' ∧ SortedIn ltInt a b d' := by
  obtain ⟨d', h1, h2, h3⟩ := hx
  exact ⟨d', h1, permIn_trans _ _ _ a b h h2, h3⟩
theorem loop_ok {F : FP} {m : Nat} (hF : Sorts F m) : ∀ (r a b limit : Nat) (wb wp : Bool) (d : Array Int), b - a ≤ r → a ≤ b → b ≤ d.size → d.size ≤ 255 → limit ≤ 1000 → Go.Sort.Below ltInt a b d → (b - a ≤ 12 ∨ b - a ≤ 2 * m + 1) → PdqOK F a b limit wb wp d := by
  intro r
  induction r with
  | zero =>
    intro a b limit wb wp d hr hab hb hd hl hB hm
    unfold PdqOK
    rw [Le_slices_pdqsortOrdered_uint64_2]
    unfold ltree_slices_pdqsortOrdered_uint64_2
    rw [show IntKind.i64.wrap ((b : Int) - (a : Int)) = ((b - a : Nat) : Int) by rw [i64id] <;> omega, cd_t (by omega), e_insertionSort hab hb (by omega)]
    exact ⟨_, rfl, insertionSort_holds swo_ltInt d a b hab hb⟩
  | succ r ihr =>
    intro a b limit wb wp d hr hab hb hd hl hB hm
    unfold PdqOK
    rw [Le_slices_pdqsortOrdered_uint64_2]
    unfold ltree_slices_pdqsortOrdered_uint64_2
    rw [show IntKind.i64.wrap ((b : Int) - (a : Int)) = ((b - a : Nat) : Int) by rw [i64id] <;> omega]
    by_cases h12 : b - a ≤ 12
    · rw [cd_t (by omega), e_insertionSort hab hb (by omega)]
      exact ⟨_, rfl, insertionSort_holds swo_ltInt d a b hab hb⟩
    have hm : b - a ≤ 2 * m + 1 := by omega
    rw [cd_f (by omega)]
    by_cases h0 : limit = 0
    · subst h0
      rw [c_t (by simp), e_heapSort (by omega) hb (by omega)]
      exact ⟨_, rfl, heapSort_holds swo_ltInt d a b hab hb⟩
    rw [c_f (by simp; omega)]
    have el : IntKind.i64.wrap ((limit : Int) - 1) = ((limit - 1 : Nat) : Int) := by rw [i64id] <;> omega
    have eb : IntKind.i64.wrap ((b : Int) - 1) = ((b - 1 : Nat) : Int) := by rw [i64id] <;> omega
    have ih : ∀ (lim : Nat), lim ≤ 1000 → ∀ (D : Array Int), D.size = d.size → ∀ (a' b' : Nat) (wb wp : Bool) (d' : Array Int), b' - a' < b - a → a ≤ a' → a' ≤ b' → b' ≤ b → d'.size = D.size → Go.Sort.Below ltInt a' b' d' → PdqOK F a' b' lim wb wp d' :=
      fun lim hlim D hD a' b' wb wp d' h1 h2 h3 h4 h5 h6 => ihr a' b' lim wb wp d' (by omega) h3 (by omega) (by omega) hlim h6 (by omega)
    cases wb with
    | false =>
      simp only [Bool.not_false, cond_true, cond_false]
      rw [e_breakPatterns (by omega) hb hd]
      simp only [Option.bind_some]
      have s1 := breakPatterns_holds d a b hab hb
      generalize breakPatterns d a b = d1 at *
      have b1 : b ≤ d1.size := by rw [s1.1]; exact hb
      have B1 := hB.perm hb s1
      rw [e_choosePivot (by omega) b1 (by rw [s1.1]; omega)]
      simp only [Option.bind_some]
      obtain ⟨c1, c2⟩ := choosePivot_holds ltInt d1 a b (by omega)
      generalize choosePivot ltInt d1 a b = c at *
      obtain ⟨p, h⟩ := c
      dsimp only at c1 c2 ⊢
      rw [el]
      cases h with
      | decreasing =>
        rw [c_t (by rfl), e_reverseRange (by omega) b1 (by rw [s1.1]; omega)]
        simp only [Option.bind_some]
        have s2 := reverseRange_holds d1 a b hab b1
        generalize reverseRange d1 a b = d2 at *
        have b2 : b ≤ d2.size := by rw [s2.1]; exact b1
        have B2 := B1.perm b1 s2
        rw [eb, show IntKind.i64.wrap ((p : Int) - (a : Int)) = ((p - a : Nat) : Int) by rw [i64id] <;> omega, show IntKind.i64.wrap (((b - 1 : Nat) : Int) - ((p - a : Nat) : Int)) = ((b - 1 - (p - a) : Nat) : Int) by rw [i64id] <;> omega]
        exact permSorted_trans (permIn_trans _ _ _ a b s1 s2) (rest_ok (wb := false) (wp := wp) hF (by omega) (by omega) b2 (by rw [s2.1, s1.1]; exact hd) (by omega) B2 hm (ih _ (by omega) _ (by rw [s2.1, s1.1])))
      | increasing =>
        rw [c_f (by rfl)]
        exact permSorted_trans s1 (rest_ok (wb := false) (wp := wp) hF c1 c2 b1 (by rw [s1.1]; exact hd) (by omega) B1 hm (ih _ (by omega) _ s1.1))
      | unknown =>
        rw [c_f (by rfl)]
        exact permSorted_trans s1 (rest_ok (wb := false) (wp := wp) hF c1 c2 b1 (by rw [s1.1]; exact hd) (by omega) B1 hm (ih _ (by omega) _ s1.1))
    | true =>
      simp only [Bool.not_true, cond_true, cond_false]
      rw [e_choosePivot (by omega) hb (by omega)]
      simp only [Option.bind_some]
      obtain ⟨c1, c2⟩ := choosePivot_holds ltInt d a b (by omega)
      generalize choosePivot ltInt d a b = c at *
      obtain ⟨p, h⟩ := c
      dsimp only at c1 c2 ⊢
      cases h with
      | decreasing =>
        rw [c_t (by rfl), e_reverseRange (by omega) hb (by omega)]
        simp only [Option.bind_some]
        have s2 := reverseRange_holds d a b hab hb
        generalize reverseRange d a b = d2 at *
        have b2 : b ≤ d2.size := by rw [s2.1]; exact hb
        have B2 := hB.perm hb s2
        rw [eb, show IntKind.i64.wrap ((p : Int) - (a : Int)) = ((p - a : Nat) : Int) by rw [i64id] <;> omega, show IntKind.i64.wrap (((b - 1 : Nat) : Int) - ((p - a : Nat) : Int)) = ((b - 1 - (p - a) : Nat) : Int) by rw [i64id] <;> omega]
        cases wp with
        | false => exact permSorted_trans s2 (rest_ok (wb := true) (wp := false) hF (by omega) (by omega) b2 (by rw [s2.1]; exact hd) hl B2 hm (ih _ hl _ s2.1))
        | true =>
          simp only [cond_true]
          rw [e_partialInsertionSort (by omega) b2 (by rw [s2.1]; omega)]
          simp only [Option.bind_some]
          obtain ⟨s3, s3'⟩ := partialInsertionSort_holds swo_ltInt d2 a b (by omega) b2 B2
          generalize partialInsertionSort ltInt d2 a b = q at *
          obtain ⟨d3, fl⟩ := q
          cases fl with
          | true => exact ⟨d3, rfl, permIn_trans _ _ _ a b s2 s3, s3' rfl⟩
          | false =>
            dsimp only at s3
            exact permSorted_trans (permIn_trans _ _ _ a b s2 s3) (rest_ok (wb := true) (wp := true) hF (by omega) (by omega) (by rw [s3.1]; exact b2) (by rw [s3.1, s2.1]; exact hd) hl (B2.perm b2 s3) hm (ih _ hl _ (by rw [s3.1, s2.1])))
      | increasing =>
        rw [c_f (by rfl)]
        cases wp with
        | false => exact rest_ok (wb := true) (wp := false) hF c1 c2 hb hd hl hB hm (ih _ hl _ rfl)
        | true =>
          simp only [cond_true]
          rw [c_t (by rfl), e_partialInsertionSort (by omega) hb (by omega)]
          simp only [Option.bind_some]
          obtain ⟨s3, s3'⟩ := partialInsertionSort_holds swo_ltInt d a b (by omega) hb hB
          generalize partialInsertionSort ltInt d a b = q at *
          obtain ⟨d3, fl⟩ := q
          cases fl with
          | true => exact ⟨d3, rfl, s3, s3' rfl⟩
          | false =>
            dsimp only at s3
            exact permSorted_trans s3 (rest_ok (wb := true) (wp := true) hF c1 c2 (by rw [s3.1]; exact hb) (by rw [s3.1]; exact hd) hl (hB.perm hb s3) hm (ih _ hl _ s3.1))
      | unknown =>
        rw [c_f (by rfl)]
        cases wp with
        | false => exact rest_ok (wb := true) (wp := false) hF c1 c2 hb hd hl hB hm (ih _ hl _ rfl)
        | true =>
          simp only [cond_true]
          rw [c_f (by rfl)]
          exact rest_ok (wb := true) (wp := true) hF c1 c2 hb hd hl hB hm (ih _ hl _ rfl)
end Go.Proofs.Ytgakbdikappdbaa.S2
