/- What comes of being asked for a vote, in plain words. -/
import Derived.Test.YtgakbdikappdbaaGreatPraft1
import Derived.Test.YtgakbdikappdbaaGreatPwire
import Derived.Test.YtgakbdikappdbaaGreatGrecv
import Derived.Test.YtgakbdikappdbaaGreatGouts
set_option linter.unusedVariables false
set_option linter.unusedSimpArgs false
namespace Go.Proofs.YtgakbdikappdbaaGreat.S2
open Go
def Uq (x : Int) : Prop := 0 ≤ x ∧ x < 18446744073709551616
theorem numsOf_len (s : ByteArray) : (numsOf s).length = s.size := by simp only [numsOf, List.length_map, Array.length_toList]; rfl
theorem e_ws1 {s : ByteArray} (h : s.size ≤ 140737488355328) : F_strings_Builder_WriteString_v1 (s, ()) ((), ()) = some (((s.size : Int), ()), ((), (numsOf s, ()))) := by
  rw [Fe_strings_Builder_WriteString_v1]
  unfold tree_strings_Builder_WriteString_v1
  have hc : F_strings_Builder_copyCheck_v1 () ((), ()) = some ((), ((), ())) := rfl
  refine bindS hc ?_
  rw [cd_t (by rw [numsOf_len]; omega)]
theorem e_ws2 {s : ByteArray} {xs : List Int} (h : xs.length + s.size ≤ 140737488355328) : F_strings_Builder_WriteString_v2 (s, ()) ((), xs, ()) = some (((s.size : Int), ()), ((), ((), (xs ++ numsOf s, ())))) := by
  rw [Fe_strings_Builder_WriteString_v2]
  unfold tree_strings_Builder_WriteString_v2
  have hc : F_strings_Builder_copyCheck_v2 () ((), xs, ()) = some ((), ((), (xs, ()))) := rfl
  refine bindS hc ?_
  dsimp only
  rw [cd_t (by rw [numsOf_len]; omega)]
theorem e_str {xs : List Int} (h : 0 < xs.length) : ∃ s, F_strings_Builder_String () ((), xs, ()) = some (s, ((), ((), ()))) ∧ s.size = xs.length := by
  rw [Fe_strings_Builder_String]
  unfold tree_strings_Builder_String
  rw [cd_t h, cd_t (by omega), cd_t (by omega), cd_t (by rw [Int.toNat_natCast]; omega)]
  exact ⟨_, rfl, by rw [Int.toNat_natCast, List.drop_zero, List.take_length]; exact strOfNums_size xs⟩
theorem e_PutList0 : ∃ s, F_wire_PutList ([], ()) () = some (s, ()) ∧ s.size ≤ 10 := by
  rw [Fe_wire_PutList]
  unfold tree_wire_PutList
  have hP : F_wire_PutUint (IntKind.u64.wrap (([] : List ByteArray).length : Int), ()) () = some (putB 0, ()) := e_PutUint (n := 0) (by decide) (by decide)
  have hb := putB_size (n := 0) (by decide) (by decide)
  have hp : 1 ≤ (putB 0).size := by decide +kernel
  rw [hP, Option.bind_some]
  dsimp only
  rw [e_ws1 (by omega), Option.bind_some]
  dsimp only
  have hL : L_wire_PutList_4 ([], (([] : List ByteArray).length : Int), 0, ()) (numsOf (putB 0), (), ()) = some ((), (numsOf (putB 0), ((), ()))) := by
    rw [Le_wire_PutList_4]
    unfold ltree_wire_PutList_4
    rw [cd_f (by decide)]
  rw [hL, Option.bind_some]
  dsimp only
  obtain ⟨s, h1, h2⟩ := e_str (xs := numsOf (putB 0)) (by rw [numsOf_len]; omega)
  rw [h1]
  exact ⟨s, rfl, by rw [h2, numsOf_len]; exact hb⟩
theorem laid_loop (nums : List Int) (hn : nums.length ≤ 4) (hU : ∀ x ∈ nums, Uq x) : ∀ (d k : Nat) (xs : List Int), k + d = nums.length → xs.length + 10 * d ≤ 1000 →
    ∃ ys, L_msg_laid_4 (nums, (nums.length : Int), (k : Int), ()) (xs, (0, nums, [], ()), (), ()) = some ((), (ys, ((0, nums, [], ()), ((), ())))) ∧ xs.length ≤ ys.length ∧ ys.length ≤ 1000
  | 0, k, xs, h, hx => by
    rw [Le_msg_laid_4]
    unfold ltree_msg_laid_4
    rw [cd_f (by omega)]
    exact ⟨xs, rfl, Nat.le_refl _, by omega⟩
  | d + 1, k, xs, h, hx => by
    rw [Le_msg_laid_4]
    unfold ltree_msg_laid_4
    rw [cd_t (by omega), cd_t (by omega), cd_t (by omega), Int.toNat_natCast]
    have hin : nums.getD k 0 ∈ nums := by
      rw [List.getD_eq_getElem?_getD, List.getElem?_eq_getElem (by omega : k < nums.length)]
      exact List.getElem_mem _
    obtain ⟨h0, h1⟩ := hU _ hin
    rw [e_PutUint h0 h1, Option.bind_some]
    have hb := putB_size h0 h1
    dsimp only
    rw [e_ws2 (by omega), Option.bind_some]
    dsimp only
    rw [i64id (by omega) (by omega)]
    obtain ⟨ys, e1, e2, e3⟩ := laid_loop nums hn hU d (k + 1) (xs ++ numsOf (putB (nums.getD k 0))) (by omega) (by rw [List.length_append, numsOf_len]; omega)
    rw [show ((k : Int) + 1) = ((k + 1 : Nat) : Int) by omega]
    exact ⟨ys, e1, by rw [List.length_append] at e2; omega, e3⟩
theorem e_laid0 {nums : List Int} (hn : nums.length = 4) (hU : ∀ x ∈ nums, Uq x) : ∃ s, F_msg_laid ((0, nums, [], ()), ()) () = some (s, ()) := by
  rw [Fe_msg_laid]
  unfold tree_msg_laid
  have hP : F_wire_PutUint (IntKind.u64.wrap 0, ()) () = some (putB 0, ()) := e_PutUint (n := 0) (by decide) (by decide)
  have hb := putB_size (n := 0) (by decide) (by decide)
  have hp : 1 ≤ (putB 0).size := by decide +kernel
  rw [hP, Option.bind_some]
  dsimp only
  rw [e_ws1 (by omega), Option.bind_some]
  dsimp only
  obtain ⟨ys, h1, h2, h3⟩ := laid_loop nums (by omega) hU 4 0 (numsOf (putB 0)) (by omega) (by rw [numsOf_len]; omega)
  have h1 : L_msg_laid_4 (nums, (nums.length : Int), 0, ()) (numsOf (putB 0), (0, nums, [], ()), (), ()) = _ := h1
  rw [h1, Option.bind_some]
  dsimp only
  obtain ⟨s, hs, hs2⟩ := e_PutList0
  rw [hs, Option.bind_some]
  dsimp only
  rw [e_ws2 (by omega), Option.bind_some]
  dsimp only
  rw [numsOf_len] at h2
  obtain ⟨t, ht, _⟩ := e_str (xs := ys ++ numsOf s) (by rw [List.length_append]; omega)
  rw [ht, Option.bind_some]
  exact ⟨t, rfl⟩
theorem e_Check0 {nums : List Int} {texts : List ByteArray} (hU : ∀ x ∈ nums, Uq x) : ∃ c, F_msg_Check ((0, nums, texts, ()), ()) () = some (c, ()) ∧ (c = 0 → nums.length = 4) := by
  rw [Fe_msg_Check]
  unfold tree_msg_Check
  have hS : F_msg_shapes (0, ()) () = some (((4, (0, (0, ()))), (true, ())), ()) := rfl
  rw [hS, Option.bind_some]
  dsimp only
  rw [c_f (b := !true) rfl]
  by_cases hn : nums.length = 4
  · rw [c_f (by rw [hn]; rfl), cd_f (by omega)]
    by_cases ht : texts = []
    · subst ht
      rw [cd_f (by decide)]
      have hL : L_msg_Check_8 (0, [], (([] : List ByteArray).length : Int), 0, ()) ((0, nums, [], ()), (4, 0, 0, ()), ()) = some (.inr ((0, ()), ((0, nums, [], ()), ()))) := by
        rw [Le_msg_Check_8]
        unfold ltree_msg_Check_8
        rw [cd_f (by decide)]
      rw [hL, Option.bind_some]
      dsimp only [Sum.elim_inr]
      rw [cd_f (by decide)]
      obtain ⟨s, hs⟩ := e_laid0 hn hU
      rw [hs, Option.bind_some]
      dsimp only
      by_cases hb : (s.size : Int) > 65536
      · rw [cd_t hb]; exact ⟨22, rfl, fun h => by cases h⟩
      · rw [cd_f hb]; exact ⟨0, rfl, fun _ => hn⟩
    · have : 0 < texts.length := List.length_pos_iff.2 ht
      rw [cd_t (by omega)]
      exact ⟨21, rfl, fun h => by cases h⟩
  · rw [c_t (by simp; omega)]
    exact ⟨21, rfl, fun h => by cases h⟩
theorem e_Entry {b t i : Int} {es : List E} (hb : 0 ≤ b) (hi : 0 ≤ i ∧ i < 18446744073709551616) (hl : es.length ≤ 1000) : ∃ r, F_rlog_Entry ((b, t, es, ()), i, ()) () = some r := by
  rw [Fe_rlog_Entry]
  unfold tree_rlog_Entry
  by_cases h1 : i ≤ b
  · rw [cd_t h1]; exact ⟨_, rfl⟩
  · rw [cd_f h1, u64id (n := i - b) (by omega) (by omega), u64id (n := (es.length : Int)) (by omega) (by omega)]
    by_cases h2 : i - b > (es.length : Int)
    · rw [cd_t h2]; exact ⟨_, rfl⟩
    · rw [cd_f h2, u64id (n := i - b - 1) (by omega) (by omega), cd_t (by omega), cd_t (by omega)]
      exact ⟨_, rfl⟩
theorem e_Newer {b t x y : Int} {es : List E} (hb : 0 ≤ b) (hl : es.length ≤ 1000) : ∃ q, F_rlog_Newer ((b, t, es, ()), x, y, ()) () = some (q, ()) := by
  rw [Fe_rlog_Newer]
  unfold tree_rlog_Newer
  have hLast : F_rlog_Last ((b, t, es, ()), ()) () = some (IntKind.u64.wrap (b + IntKind.u64.wrap (es.length : Int)), ()) := rfl
  rw [hLast, Option.bind_some]
  dsimp only
  have hT : ∃ p q, F_rlog_Term ((b, t, es, ()), IntKind.u64.wrap (b + IntKind.u64.wrap (es.length : Int)), ()) () = some ((p, q, ()), ()) := by
    rw [Fe_rlog_Term]
    unfold tree_rlog_Term
    cases (IntKind.u64.wrap (b + IntKind.u64.wrap (es.length : Int)) == b) with
    | true => exact ⟨_, _, rfl⟩
    | false =>
      rw [c_f rfl]
      obtain ⟨r, hr⟩ := e_Entry (b := b) (t := t) (i := IntKind.u64.wrap (b + IntKind.u64.wrap (es.length : Int))) (es := es) hb (by rw [u64w]; omega) hl
      rw [hr]
      exact ⟨_, _, rfl⟩
  obtain ⟨p, q, hT⟩ := hT
  rw [hT, Option.bind_some]
  dsimp only
  cases decide (y > p) with
  | true => exact ⟨_, rfl⟩
  | false =>
    rw [c_f rfl]
    cases (y == p) with
    | true => exact ⟨_, rfl⟩
    | false => exact ⟨_, rfl⟩
theorem e_Ask {t v b bt a0 a1 a2 a3 : Int} {es : List E} (hb : 0 ≤ b) (hl : es.length ≤ 1000) : ∃ t' v' ok, F_vote_Ask ((t, v, ()), (b, bt, es, ()), a0, a1, a2, a3, ()) () = some (((t', v', ()), ok, ()), ()) := by
  rw [Fe_vote_Ask]
  unfold tree_vote_Ask
  by_cases h1 : a0 < t
  · rw [cd_t h1]; exact ⟨_, _, _, rfl⟩
  · rw [cd_f h1]
    cases (a1 == 18446744073709551615) with
    | true => exact ⟨_, _, _, rfl⟩
    | false =>
      rw [c_f rfl]
      have hS : ∃ p q, F_vote_Seen ((t, v, ()), a0, ()) () = some ((p, q, ()), ()) := by
        rw [Fe_vote_Seen]
        unfold tree_vote_Seen
        cases decide (t ≥ a0) with
        | true => exact ⟨_, _, rfl⟩
        | false => exact ⟨_, _, rfl⟩
      obtain ⟨p, q, hS⟩ := hS
      obtain ⟨w, hN⟩ := e_Newer (b := b) (t := bt) (x := a2) (y := a3) (es := es) hb hl
      rw [hS, Option.bind_some]
      dsimp only
      cases (q != 0) with
      | true =>
        rw [c_t rfl]
        cases (q != IntKind.u64.wrap (a1 + 1)) with
        | true => exact ⟨_, _, _, rfl⟩
        | false =>
          rw [c_f rfl, hN, Option.bind_some]
          cases w <;> exact ⟨_, _, _, rfl⟩
      | false =>
        rw [c_f rfl, hN, Option.bind_some]
        cases w <;> exact ⟨_, _, _, rfl⟩
theorem texts_loop_refl (a : List ByteArray) (hl : a.length ≤ 140737488355328) : ∀ (d k : Nat), k + d = a.length → L_ref01_Texts_4 (a, a, (k : Int), ()) () = some (.inr ((), ()))
  | 0, k, h => by
    rw [Le_ref01_Texts_4]
    unfold ltree_ref01_Texts_4
    rw [cd_f (by omega)]
  | d + 1, k, h => by
    rw [Le_ref01_Texts_4]
    unfold ltree_ref01_Texts_4
    rw [cd_t (by omega), cd_t (by omega), cd_t (by omega), cd_t (by omega), cd_t (by omega), c_f (by simp), i64id (by omega) (by omega)]
    have := texts_loop_refl a hl d (k + 1) (by omega)
    rw [show ((k : Int) + 1) = ((k + 1 : Nat) : Int) by omega]
    exact this
theorem e_Is2_refl {k : Int} {a : List Int} {b : List ByteArray} (ha : a.length ≤ 140737488355328) (hb : b.length ≤ 140737488355328) : F_ref02_Is ((k, a, b, ()), (k, a, b, ()), ()) () = some (true, ()) := by
  rw [Fe_ref02_Is]
  unfold tree_ref02_Is
  rw [c_t (by simp)]
  refine bindS (e_Nums_refl ha) ?_
  dsimp only
  rw [c_t rfl]
  refine bindS (a := (true, ())) ?_ rfl
  rw [Fe_ref01_Texts]
  unfold tree_ref01_Texts
  rw [c_f (by simp)]
  exact bindS (texts_loop_refl b hb b.length 0 (by omega)) rfl
abbrev Ou := Int × Int × List Int × List ByteArray
theorem e_Outs_refl {l : List Ou} (hl : l.length ≤ 1) (hw : ∀ o ∈ l, o.2.2.1.length ≤ 1000 ∧ o.2.2.2.length ≤ 1000) : F_ref18_Outs (l, l, ()) () = some (true, ()) := by
  rw [Fe_ref18_Outs]
  unfold tree_ref18_Outs
  rw [c_f (by simp)]
  have h1 : L_ref18_Outs_4 (l, l, (l.length : Int), ()) () = some (.inr ((), ())) := by
    rw [Le_ref18_Outs_4]
    unfold ltree_ref18_Outs_4
    rw [cd_f (by omega)]
  match l, hl, hw, h1 with
  | [], _, _, h1 =>
    have h1 : L_ref18_Outs_4 ([], [], 0, ()) () = _ := h1
    exact bindS h1 rfl
  | [o], _, hw, h1 =>
    obtain ⟨ha, hb⟩ := hw o (by simp)
    have h1 : L_ref18_Outs_4 ([o], [o], 1, ()) () = _ := h1
    have h0 : L_ref18_Outs_4 ([o], [o], 0, ()) () = some (.inr ((), ())) := by
      rw [Le_ref18_Outs_4]
      unfold ltree_ref18_Outs_4
      rw [cd_t (by simp), cd_t (by simp), cd_t (by simp), cd_t (by simp), cd_t (by simp), c_f (by simp), cd_t (by simp), cd_t (by simp), cd_t (by simp), cd_t (by simp)]
      refine bindS (e_Is2_refl (k := o.2.1) (a := o.2.2.1) (b := o.2.2.2) (by omega) (by omega)) ?_
      dsimp only
      rw [c_f (b := !true) rfl]
      exact h1
    exact bindS h0 rfl
end Go.Proofs.YtgakbdikappdbaaGreat.S2
