/- Lists that are the same, trees that fit, and the fixed calls of layer 6, in plain words. -/
import Derived.Test.YtljfdfghagiblaaPmk2
import Derived.Test.YtljfdfghagiblaaGr06
set_option linter.unusedVariables false
set_option linter.unusedSimpArgs false
namespace Go.Proofs.Ytljfdfghagiblaa.S2.Mk
open Go Go.Proofs.Ytljfdfghagiblaa.S2

theorem nums_loop (a b : List Int) (hl : a.length = b.length) (hn : a.length ≤ 1000000000000000) : ∀ (d k : Nat), k + d = a.length →
    L_ref01_Nums_4 (a, b, (k : Int), ()) () = some (if a.drop k = b.drop k then .inr ((), ()) else .inl ((false, ()), ()))
  | 0, k, h => by
    rw [Le_ref01_Nums_4]
    unfold ltree_ref01_Nums_4
    rw [cd_f (by omega), if_pos (by rw [List.drop_of_length_le (by omega), List.drop_of_length_le (by omega)])]
  | d + 1, k, h => by
    have h1 : k < a.length := by omega
    have h2 : k < b.length := by omega
    rw [Le_ref01_Nums_4]
    unfold ltree_ref01_Nums_4
    have e1 : IntKind.i64.wrap ((k : Int) + 1) = ((k + 1 : Nat) : Int) := by rw [i64id (by omega) (by omega)]; simp
    have ga : a.getD k 0 = a[k] := by rw [List.getD_eq_getElem?_getD, List.getElem?_eq_getElem h1]; rfl
    have gb : b.getD k 0 = b[k] := by rw [List.getD_eq_getElem?_getD, List.getElem?_eq_getElem h2]; rfl
    rw [cd_t (by omega), cd_t (by omega), cd_t (by omega), cd_t (by omega), cd_t (by omega), Int.toNat_natCast, ga, gb, e1, nums_loop a b hl hn d (k + 1) (by omega),
      List.drop_eq_getElem_cons h1, List.drop_eq_getElem_cons h2]
    by_cases he : a[k] = b[k]
    · rw [c_f (by rw [he]; exact bne_self_eq_false _)]
      simp only [List.cons.injEq, he, true_and]
    · rw [c_t (bne_iff_ne.2 he), if_neg (fun hx => he (List.cons.inj hx).1)]
theorem e_Nums {a b : List Int} (hn : a.length ≤ 1000000000000000) (hm : b.length ≤ 1000000000000000) : F_ref01_Nums (a, b, ()) () = some (decide (a = b), ()) := by
  rw [Fe_ref01_Nums]
  unfold tree_ref01_Nums
  by_cases hl : a.length = b.length
  · rw [c_f (by rw [hl]; exact bne_self_eq_false _)]
    have := nums_loop a b hl hn a.length 0 (by omega)
    rw [show ((0 : Nat) : Int) = 0 from rfl] at this
    rw [this, List.drop_zero, List.drop_zero]
    by_cases he : a = b
    · rw [if_pos he, decide_eq_true he]; rfl
    · rw [if_neg he, decide_eq_false he]; rfl
  · rw [c_t (bne_iff_ne.2 (by omega)), decide_eq_false (fun h => hl (by rw [h]))]
theorem is_loop (a b : List (List Int)) (hl : a.length = b.length) (hn : a.length ≤ 1000000000000000) (ha : ∀ l, l ∈ a → l.length ≤ 1000000000000000) (hb : ∀ l, l ∈ b → l.length ≤ 1000000000000000) : ∀ (d k : Nat), k + d = a.length →
    L_ref06_Is_4 (a, b, (k : Int), ()) () = some (if a.drop k = b.drop k then .inr ((), ()) else .inl ((false, ()), ()))
  | 0, k, h => by
    rw [Le_ref06_Is_4]
    unfold ltree_ref06_Is_4
    rw [cd_f (by omega), if_pos (by rw [List.drop_of_length_le (by omega), List.drop_of_length_le (by omega)])]
  | d + 1, k, h => by
    have h1 : k < a.length := by omega
    have h2 : k < b.length := by omega
    rw [Le_ref06_Is_4]
    unfold ltree_ref06_Is_4
    have e1 : IntKind.i64.wrap ((k : Int) + 1) = ((k + 1 : Nat) : Int) := by rw [i64id (by omega) (by omega)]; simp
    have ga : a.getD k [] = a[k] := by rw [List.getD_eq_getElem?_getD, List.getElem?_eq_getElem h1]; rfl
    have gb : b.getD k [] = b[k] := by rw [List.getD_eq_getElem?_getD, List.getElem?_eq_getElem h2]; rfl
    rw [cd_t (by omega), cd_t (by omega), cd_t (by omega), cd_t (by omega), cd_t (by omega), Int.toNat_natCast, ga, gb, e_Nums (ha _ (List.getElem_mem h1)) (hb _ (List.getElem_mem h2))]
    simp only [Option.bind_some]
    rw [e1, is_loop a b hl hn ha hb d (k + 1) (by omega), List.drop_eq_getElem_cons h1, List.drop_eq_getElem_cons h2]
    by_cases he : a[k] = b[k]
    · rw [c_f (by rw [decide_eq_true he]; rfl)]
      simp only [List.cons.injEq, he, true_and]
    · rw [c_t (by rw [decide_eq_false he]; rfl), if_neg (fun hx => he (List.cons.inj hx).1)]
theorem e_Is {a b : List (List Int)} (hn : a.length ≤ 1000000000000000) (ha : ∀ l, l ∈ a → l.length ≤ 1000000000000000) (hb : ∀ l, l ∈ b → l.length ≤ 1000000000000000) : F_ref06_Is (a, b, ()) () = some (decide (a = b), ()) := by
  rw [Fe_ref06_Is]
  unfold tree_ref06_Is
  by_cases hl : a.length = b.length
  · rw [c_f (by rw [hl]; exact bne_self_eq_false _)]
    have := is_loop a b hl hn ha hb a.length 0 (by omega)
    rw [show ((0 : Nat) : Int) = 0 from rfl] at this
    rw [this, List.drop_zero, List.drop_zero]
    by_cases he : a = b
    · rw [if_pos he, decide_eq_true he]; rfl
    · rw [if_neg he, decide_eq_false he]; rfl
  · rw [c_t (bne_iff_ne.2 (by omega)), decide_eq_false (fun h => hl (by rw [h]))]

/-! ### a tree that fits -/
theorem hash_old {o : Or} {t : ByteArray} {h : Int} (e : mfind eqS t o.hashes = some h) : o.hash t = (h, o) := by unfold Or.hash; rw [e]
theorem fits_inner (o : Or) (hd : 0 ≤ o.drawn) (tr x3 : List (List Int)) (x4 x5 : Int) (l l' : List Int) (k : Nat) (hk : k < tr.length) (hk9 : tr.length ≤ 9) (hg : tr.getD k [] = l) (hl : l.length = 2 * l'.length) (hll : l'.length ≤ 1000000) (ul : ∀ x, x ∈ l → U x)
    (hT : ∀ i, i < l'.length → o.tab (nodeT (l.getD (2 * i) 0) (l.getD (2 * i + 1) 0)) = some (l'.getD i 0)) : ∀ (d i : Nat), i + d = l'.length →
    L_merkle_Fits_7 (tr, (k : Int), x3, x4, x5, l', (l'.length : Int), (i : Int), ()) o.m = some (.inr ((tr, x3, x4, x5, ()), o.m))
  | 0, i, h => by
    have e0 : L_merkle_Fits_7 (tr, (k : Int), x3, x4, x5, l', (l'.length : Int), (i : Int), ()) o.m = ltree_merkle_Fits_7 F_merkle_Node tr k x3 x4 x5 l' l'.length i o.draws o.drawn o.bad o.issued o.met o.hashes o.tags o.seals o.opens o.plains L_merkle_Fits_7 some := Le_merkle_Fits_7 ..
    rw [e0]
    unfold ltree_merkle_Fits_7
    rw [cd_f (by omega)]
    rfl
  | d + 1, i, h => by
    have e0 : L_merkle_Fits_7 (tr, (k : Int), x3, x4, x5, l', (l'.length : Int), (i : Int), ()) o.m = ltree_merkle_Fits_7 F_merkle_Node tr k x3 x4 x5 l' l'.length i o.draws o.drawn o.bad o.issued o.met o.hashes o.tags o.seals o.opens o.plains L_merkle_Fits_7 some := Le_merkle_Fits_7 ..
    rw [e0]
    unfold ltree_merkle_Fits_7
    have h2 : IntKind.i64.wrap (2 * (i : Int)) = ((2 * i : Nat) : Int) := by rw [i64id (by omega) (by omega)]; simp
    have h3 : IntKind.i64.wrap (((2 * i : Nat) : Int) + 1) = ((2 * i + 1 : Nat) : Int) := by rw [i64id (by omega) (by omega)]; simp
    have e1 : IntKind.i64.wrap ((i : Int) + 1) = ((i + 1 : Nat) : Int) := by rw [i64id (by omega) (by omega)]; simp
    have hn := e_Node o (U_getD ul (2 * i)) (U_getD ul (2 * i + 1)) hd
    rw [hash_old (hT i (by omega))] at hn
    unfold Or.m at hn
    rw [cd_t (by omega), cd_t (by omega), cd_t (by omega), cd_t (by omega), cd_t (by omega), h2, h3, Int.toNat_natCast, hg, cd_t (by omega), cd_t (by omega), cd_t (by omega), cd_t (by omega), cd_t (by omega), cd_t (by omega),
      Int.toNat_natCast, Int.toNat_natCast, Int.toNat_natCast, hn]
    simp only [Option.bind_some]
    rw [c_f (bne_self_eq_false _), e1]
    exact fits_inner o hd tr x3 x4 x5 l l' k hk hk9 hg hl hll ul hT d (i + 1) (by omega)
theorem fits_outer (o : Or) (hd : 0 ≤ o.drawn) (tr : List (List Int)) (h9 : tr.length ≤ 9) (hu : AllU tr) : ∀ (suf pre : List (List Int)), tr = pre ++ suf → TreeT o.tab suf →
    L_merkle_Fits_4 (tr, tr.drop 1, ((tr.drop 1).length : Int), (pre.length : Int), ()) o.m = some (.inr ((), o.m))
  | [], pre, e, h => h.elim
  | [l], pre, e, h => by
    have e0 : L_merkle_Fits_4 (tr, tr.drop 1, ((tr.drop 1).length : Int), (pre.length : Int), ()) o.m = ltree_merkle_Fits_4 L_merkle_Fits_7 tr (tr.drop 1) (tr.drop 1).length pre.length o.draws o.drawn o.bad o.issued o.met o.hashes o.tags o.seals o.opens o.plains L_merkle_Fits_4 some := Le_merkle_Fits_4 ..
    rw [e0]
    unfold ltree_merkle_Fits_4
    rw [cd_f (by rw [e]; simp)]
    rfl
  | l :: l' :: r, pre, e, h => by
    have e0 : L_merkle_Fits_4 (tr, tr.drop 1, ((tr.drop 1).length : Int), (pre.length : Int), ()) o.m = ltree_merkle_Fits_4 L_merkle_Fits_7 tr (tr.drop 1) (tr.drop 1).length pre.length o.draws o.drawn o.bad o.issued o.met o.hashes o.tags o.seals o.opens o.plains L_merkle_Fits_4 some := Le_merkle_Fits_4 ..
    rw [e0]
    unfold ltree_merkle_Fits_4
    obtain ⟨h1, h2, h3⟩ := h
    have hlen : tr.length = pre.length + (r.length + 2) := by rw [e]; simp
    have hdl : (tr.drop 1).length = pre.length + r.length + 1 := by simp; omega
    have hg : tr.getD pre.length [] = l := by rw [e]; exact getD_pre ..
    have hg1 : (tr.drop 1).getD pre.length [] = l' := by
      rw [List.getD_eq_getElem?_getD, List.getElem?_drop, e, List.getElem?_append_right (by omega)]
      simp [show 1 + pre.length - pre.length = 1 by omega]
    have hpow := shp_pow l' r (shp_of_tree h3)
    have hsm : 2 ^ r.length ≤ 2 ^ 8 := Nat.pow_le_pow_right (by decide) (by omega)
    have ul : ∀ x, x ∈ l → U x := hu l (by rw [e]; simp)
    rw [cd_t (by omega), cd_t (by omega), cd_t (by omega), Int.toNat_natCast, hg1]
    have hi := fits_inner o hd tr (tr.drop 1) ((tr.drop 1).length : Int) (pre.length : Int) l l' pre.length (by omega) h9 hg h1 (by omega) ul h2 l'.length 0 (by omega)
    rw [show ((0 : Nat) : Int) = 0 from rfl] at hi
    unfold Or.m at hi
    rw [hi]
    simp only [Option.bind_some, Sum.elim_inr]
    have e1 : IntKind.i64.wrap ((pre.length : Int) + 1) = ((pre ++ [l]).length : Int) := by rw [i64id (by omega) (by omega)]; simp
    rw [e1]
    exact fits_outer o hd tr h9 hu (l' :: r) (pre ++ [l]) (by rw [e]; simp) h3
theorem e_Fits {o : Or} (hd : 0 ≤ o.drawn) {tr : List (List Int)} (h9 : tr.length ≤ 9) (hu : AllU tr) (hT : TreeT o.tab tr) : F_merkle_Fits (tr, ()) o.m = some (true, o.m) := by
  have e0 : F_merkle_Fits (tr, ()) o.m = tree_merkle_Fits F_merkle_shaped L_merkle_Fits_4 tr o.draws o.drawn o.bad o.issued o.met o.hashes o.tags o.seals o.opens o.plains some := rfl
  have hpos : 0 < tr.length := by cases tr with | nil => exact hT.elim | cons => simp
  rw [e0]
  unfold tree_merkle_Fits
  rw [e_shaped (shp_of_tree hT) h9]
  simp only [Option.bind_some, Bool.not_true, cond_false]
  have h := fits_outer o hd tr h9 hu tr [] rfl hT
  simp only [List.length_nil] at h
  rw [show ((0 : Nat) : Int) = 0 from rfl] at h
  unfold Or.m at h
  rw [cd_t (by omega), List.take_length, h]
  rfl

/-! ### the fixed calls -/
theorem mfind_none {t : ByteArray} : ∀ {es : List (ByteArray × Int)}, (∀ e, e ∈ es → e.1 ≠ t) → mfind eqS t es = none
  | [], _ => rfl
  | e :: es, h => by
    have h1 := h e List.mem_cons_self
    simp only [mfind]
    cases he : eqS t e.1 with
    | true => exact (h1 ((eqS_l _ _).1 he).symm).elim
    | false => exact mfind_none fun x hx => h x (List.mem_cons_of_mem _ hx)
theorem hash_new {o : Or} {t : ByteArray} (h : ∀ e, e ∈ o.hashes → e.1 ≠ t) : o.hash t = (o.fresh.1, { o.fresh.2 with hashes := mput eqS t o.fresh.1 o.fresh.2.hashes }) := by
  unfold Or.hash
  rw [mfind_none h]
theorem mput_new {t : ByteArray} {v : Int} : ∀ {es : List (ByteArray × Int)}, (∀ e, e ∈ es → e.1 ≠ t) → mput eqS t v es = es ++ [(t, v)]
  | [], _ => rfl
  | e :: es, h => by
    have h1 := h e List.mem_cons_self
    simp only [mput]
    cases he : eqS t e.1 with
    | true => exact (h1 ((eqS_l _ _).1 he).symm).elim
    | false =>
      show e :: mput eqS t v es = _
      rw [mput_new fun x hx => h x (List.mem_cons_of_mem _ hx)]
      rfl
abbrev txA : ByteArray := ByteArray.mk #[97]
theorem leaf_ne : leafT txA ≠ leafT ByteArray.empty := fun h => by
  have := congrArg ByteArray.size (leafT_inj h)
  exact absurd this (by decide)
theorem node_size (a b : Int) : (nodeT a b).size = 4 + (putB a).size + (putB b).size := by
  unfold nodeT
  rw [size_app, size_app]
  rfl
theorem putL_pos (n : Nat) : 0 < (putL n).length := by
  by_cases h : n < 128
  · rw [putL_small h]; simp
  · rw [putL_big h]; simp
theorem putB_pos (n : Int) : 0 < (putB n).size := by
  rw [← bs_len, bs_put]; exact putL_pos _
theorem node_ne_leaf (a b : Int) (t : ByteArray) : nodeT a b ≠ leafT t := fun h => by
  have h1 := congrArg bs h
  unfold nodeT leafT at h1
  simp only [bs_append] at h1
  have h2 := congrArg (fun l => l.head?) h1
  simp [bs] at h2
def fx0 : Or := Or.new [5, 6, 7]
theorem fx_build : ∃ o3 : Or, buildS 1 [txA] fx0 = ([[5, 6], [7]], o3) ∧ o3.drawn = 3 := by
  have h1 : fx0.hash (leafT txA) = (5, { fx0 with drawn := 1, issued := [(5, 1)], hashes := [(leafT txA, 5)] }) := rfl
  have h2 : Or.hash { fx0 with drawn := 1, issued := [(5, 1)], hashes := [(leafT txA, 5)] } (leafT ByteArray.empty) = (6, { fx0 with drawn := 2, issued := [(5, 1), (6, 1)], hashes := [(leafT txA, 5), (leafT ByteArray.empty, 6)] }) := by
    have hn : ∀ e, e ∈ [(leafT txA, (5 : Int))] → e.1 ≠ leafT ByteArray.empty := by
      intro e he
      simp only [List.mem_singleton] at he
      rw [he]
      exact leaf_ne
    have := hash_new (o := { fx0 with drawn := 1, issued := [(5, 1)], hashes := [(leafT txA, 5)] }) (t := leafT ByteArray.empty) hn
    rw [this]
    have e : mput eqS (leafT ByteArray.empty) 6 [(leafT txA, (5 : Int))] = [(leafT txA, 5), (leafT ByteArray.empty, 6)] := mput_new hn
    show ((6 : Int), { fx0 with drawn := 2, issued := [(5, 1), (6, 1)], hashes := mput eqS (leafT ByteArray.empty) 6 [(leafT txA, (5 : Int))] }) = _
    rw [e]
  have h3 : Or.hash { fx0 with drawn := 2, issued := [(5, 1), (6, 1)], hashes := [(leafT txA, 5), (leafT ByteArray.empty, 6)] } (nodeT 5 6) = (7, { fx0 with drawn := 3, issued := [(5, 1), (6, 1), (7, 1)], hashes := [(leafT txA, 5), (leafT ByteArray.empty, 6), (nodeT 5 6, 7)] }) := by
    have hn : ∀ e, e ∈ [(leafT txA, (5 : Int)), (leafT ByteArray.empty, 6)] → e.1 ≠ nodeT 5 6 := by
      intro e he
      rcases List.mem_cons.1 he with rfl | he
      · exact fun h => node_ne_leaf 5 6 _ h.symm
      · simp only [List.mem_singleton] at he
        rw [he]
        exact fun h => node_ne_leaf 5 6 _ h.symm
    have := hash_new (o := { fx0 with drawn := 2, issued := [(5, 1), (6, 1)], hashes := [(leafT txA, 5), (leafT ByteArray.empty, 6)] }) (t := nodeT 5 6) hn
    rw [this]
    have e : mput eqS (nodeT 5 6) 7 [(leafT txA, (5 : Int)), (leafT ByteArray.empty, 6)] = [(leafT txA, 5), (leafT ByteArray.empty, 6), (nodeT 5 6, 7)] := mput_new hn
    show ((7 : Int), { fx0 with drawn := 3, issued := [(5, 1), (6, 1), (7, 1)], hashes := mput eqS (nodeT 5 6) 7 [(leafT txA, (5 : Int)), (leafT ByteArray.empty, 6)] }) = _
    rw [e]
  refine ⟨{ fx0 with drawn := 3, issued := [(5, 1), (6, 1), (7, 1)], hashes := [(leafT txA, 5), (leafT ByteArray.empty, 6), (nodeT 5 6, 7)] }, ?_, ?_⟩
  · have ha : hashAll (leafTs [txA] 0 (2 ^ 1)) fx0 = ([5, 6], { fx0 with drawn := 2, issued := [(5, 1), (6, 1)], hashes := [(leafT txA, 5), (leafT ByteArray.empty, 6)] }) := by
      show hashAll [leafT txA, leafT ByteArray.empty] fx0 = _
      simp only [hashAll, h1, h2]
    unfold buildS
    rw [ha]
    show (([5, 6] : List Int) :: (treeS 0 (hashAll [nodeT 5 6] _).1 (hashAll [nodeT 5 6] _).2).1, (treeS 0 (hashAll [nodeT 5 6] _).1 (hashAll [nodeT 5 6] _).2).2) = _
    simp only [hashAll, h3, treeS]
  · rfl
theorem e_fixed06 : F_law06_fixed () () = some (true, ()) := by
  obtain ⟨o3, hb, h3⟩ := fx_build
  have w0 : Wf fx0 := wf_new (by
    intro x hx
    simp only [List.mem_cons, List.not_mem_nil, or_false] at hx
    rcases hx with rfl | rfl | rfl <;> exact ⟨by decide, by decide⟩)
  have hs : ∀ s, s ∈ [txA] → s.size ≤ 140737488355328 := by
    intro s hs
    simp only [List.mem_singleton] at hs
    rw [hs]; decide
  have hB := (e_Build (o := fx0) (d := 1) (ls := [txA]) w0 (by decide) hs).1 ⟨by decide, by decide, by decide⟩
  obtain ⟨wf3, x3, d3, t3, u3, len3, hl3, lf3⟩ := build_wf (o := fx0) (d := 1) (ls := [txA]) w0 (by decide) (by decide)
  rw [show (1 : Int).toNat = 1 from rfl, hb] at hB
  rw [hb] at wf3 d3 t3 u3 lf3
  have hP := e_Path (tr := [[5, 6], [7]]) (shp_of_tree t3) (by decide) 0
  rw [if_pos ⟨by decide, by decide⟩] at hP
  have hC := (e_Climb (o := o3) (i := 0) (p := [6]) (s := txA) wf3 (by rw [h3]; decide) (by decide) (by
    intro x hx
    simp only [List.mem_singleton] at hx
    rw [hx]; exact ⟨by decide, by decide⟩)).1 ⟨by decide, by decide, by decide⟩
  have hl0 : o3.tab (leafT txA) = some 5 := lf3 0 (by decide)
  have hn0 : o3.tab (nodeT 5 6) = some 7 := t3.2.1 0 (by decide)
  have hcs : climbS (o3.hash (leafT txA)).1 (0 : Int).toNat [6] (o3.hash (leafT txA)).2 = (7, o3) := by
    rw [hash_old hl0]
    show ((o3.hash (nodeT 5 6)).1, (o3.hash (nodeT 5 6)).2) = _
    rw [hash_old hn0]
  rw [hcs] at hC
  have hB2 := (e_Build (o := o3) (d := 1) (ls := [txA, ByteArray.mk #[98], ByteArray.mk #[99]]) wf3 (by rw [h3]; decide) (by
    intro s hs
    simp only [List.mem_cons, List.not_mem_nil, or_false] at hs
    rcases hs with rfl | rfl | rfl <;> decide)).2 (fun h => absurd h.2.2 (by decide))
  have hF := e_Fits (o := o3) (tr := [[5, 6], [7]]) (by rw [h3]; decide) (by decide) u3 t3
  rw [Fe_law06_fixed]
  unfold tree_law06_fixed
  simp only [List.nil_append, List.cons_append]
  rw [e_New (by decide)]
  simp only [Option.bind_some]
  unfold fx0 Or.m at hB
  unfold Or.m
  rw [hB]
  simp only [Option.bind_some]
  rw [hP]
  simp only [Option.bind_some]
  unfold Or.m at hC hB2 hF
  have hp : pathT [[5, 6], [7]] (0 : Int).toNat = [6] := rfl
  rw [hp, hC]
  simp only [Option.bind_some]
  rw [hB2]
  simp only [Option.bind_some, cond_true]
  rw [e_Is (by decide) (by decide) (by decide)]
  simp only [Option.bind_some]
  rw [c_t (by decide), e_Nums (by decide) (by decide)]
  simp only [Option.bind_some]
  rw [c_t (by decide), c_t (by decide), c_t (by decide), hF]
  simp only [Option.bind_some, cond_true]
  have hD := e_Drawn o3
  unfold Or.m at hD
  rw [hD, h3]
  rfl
end Go.Proofs.Ytljfdfghagiblaa.S2.Mk
