/- Laws of the tree of hashes: what an enemy shows; trees with one root, in plain words. -/
import Derived.Test.YtljfdfghagiblaaPmk4
set_option linter.unusedVariables false
set_option linter.unusedSimpArgs false
namespace Go.Proofs.Ytljfdfghagiblaa.S2.Mk
open Go Go.Proofs.Ytljfdfghagiblaa.S2

theorem all_loop (pk : List Int) (tr : List (List Int)) (dr : List Int) (dp : Int) (ls : List ByteArray) (i : Int) (s : ByteArray) (p : List Int) (o : Or) (h9 : tr.length ≤ 9) (hu : AllU tr) (hb : ∀ l, l ∈ tr → l.length ≤ 1000) : ∀ (d k : Nat) (acc : List Int), k + d = tr.length → acc.length ≤ k * 1000 → (∀ x, x ∈ acc → U x) →
    ∃ all : List Int, L_law06_MerkleShown_7 (pk, tr, (k : Int), ()) (acc, (dr, dp, ls, ()), (i, s, p, ()), (o.draws, o.drawn, o.bad, ()), o.issued, o.met, o.hashes, o.tags, o.seals, o.opens, o.plains, ()) =
      some ((pk, tr, ()), (all, (dr, dp, ls, ()), (i, s, p, ()), o.m)) ∧ (∀ x, x ∈ all → U x) ∧ acc.length ≤ all.length ∧ all.length ≤ 9000 ∧ (0 < d → (tr.getD k []).length ≤ all.length)
  | 0, k, acc, h, ha, hua => by
    refine ⟨acc, ?_, hua, Nat.le_refl _, by omega, fun h => absurd h (Nat.lt_irrefl 0)⟩
    rw [Le_law06_MerkleShown_7]
    unfold ltree_law06_MerkleShown_7
    rw [cd_f (by omega)]
    rfl
  | d + 1, k, acc, h, ha, hua => by
    have hk : k < tr.length := by omega
    have hg : tr.getD k [] = tr[k] := by rw [List.getD_eq_getElem?_getD, List.getElem?_eq_getElem hk]; rfl
    have hm : tr.getD k [] ∈ tr := by rw [hg]; exact List.getElem_mem hk
    have hlk := hb _ hm
    obtain ⟨all, e, g1, g2, g3, g4⟩ := all_loop pk tr dr dp ls i s p o h9 hu hb d (k + 1) (acc ++ tr.getD k []) (by omega) (by simp only [List.length_append]; omega) (by
      intro x hx
      rcases List.mem_append.1 hx with hx | hx
      · exact hua x hx
      · exact hu _ hm x hx)
    simp only [List.length_append] at g2
    refine ⟨all, ?_, g1, by omega, g3, fun _ => by omega⟩
    have e1 : IntKind.i64.wrap ((k : Int) + 1) = ((k + 1 : Nat) : Int) := by rw [i64id (by omega) (by omega)]; simp
    rw [Le_law06_MerkleShown_7]
    unfold ltree_law06_MerkleShown_7
    rw [cd_t (by omega), cd_t (by omega), cd_t (by omega), Int.toNat_natCast, cd_t (by omega), e1]
    exact e
theorem pick_ok (x : Int) {n : Nat} (h0 : 0 < n) (hn : n ≤ 9000) : 0 ≤ (IntKind.i64.wrap (x.tmod (n : Int) + (n : Int))).tmod (n : Int) ∧ (IntKind.i64.wrap (x.tmod (n : Int) + (n : Int))).tmod (n : Int) < (n : Int) := by
  have h1 : x.tmod (n : Int) < (n : Int) := Int.tmod_lt_of_pos x (by omega)
  have h2 : -(n : Int) < x.tmod (n : Int) := by
    have := Int.tmod_lt_of_pos (-x) (b := (n : Int)) (by omega)
    rw [Int.neg_tmod] at this
    omega
  rw [i64id (by omega) (by omega)]
  exact ⟨Int.tmod_nonneg _ (by omega), Int.tmod_lt_of_pos _ (by omega)⟩
theorem picks_loop (pk : List Int) (tr : List (List Int)) (all : List Int) (dr : List Int) (n : Nat) (hn : n ≤ 8) (ls : List ByteArray) (i : Int) (s : ByteArray) (p : List Int) (o : Or) (ha : 0 < all.length) (ha9 : all.length ≤ 9000) (hu : ∀ x, x ∈ all → U x) : ∀ (d k : Nat) (acc : List Int), k + d = n → acc.length = k → (∀ x, x ∈ acc → U x) →
    ∃ path : List Int, L_law06_MerkleShown_12 (pk, tr, (k : Int), ()) (all, acc, (dr, (n : Int), ls, ()), (i, s, p, ()), (o.draws, o.drawn, o.bad, ()), o.issued, o.met, o.hashes, o.tags, o.seals, o.opens, o.plains, ()) =
      some ((tr, ()), (path, (dr, (n : Int), ls, ()), (i, s, p, ()), o.m)) ∧ path.length = n ∧ (∀ x, x ∈ path → U x)
  | 0, k, acc, h, hl, hua => by
    refine ⟨acc, ?_, by omega, hua⟩
    rw [Le_law06_MerkleShown_12]
    unfold ltree_law06_MerkleShown_12
    rw [cd_f (by omega)]
    rfl
  | d + 1, k, acc, h, hl, hua => by
    have e1 : IntKind.i64.wrap ((k : Int) + 1) = ((k + 1 : Nat) : Int) := by rw [i64id (by omega) (by omega)]; simp
    have hne : (!decide ((all.length : Int) = 0)) = true := by rw [decide_eq_false (by omega)]; rfl
    have go : ∀ x : Int, ∃ path : List Int, L_law06_MerkleShown_12 (pk, tr, ((k + 1 : Nat) : Int), ()) (all, acc ++ [all.getD (0 + ((IntKind.i64.wrap (x.tmod (all.length : Int) + (all.length : Int))).tmod (all.length : Int)).toNat) 0], (dr, (n : Int), ls, ()), (i, s, p, ()), (o.draws, o.drawn, o.bad, ()), o.issued, o.met, o.hashes, o.tags, o.seals, o.opens, o.plains, ()) =
      some ((tr, ()), (path, (dr, (n : Int), ls, ()), (i, s, p, ()), o.m)) ∧ path.length = n ∧ (∀ x, x ∈ path → U x) := fun x =>
      picks_loop pk tr all dr n hn ls i s p o ha ha9 hu d (k + 1) _ (by omega) (by simp [hl]) (by
        intro y hy
        rcases List.mem_append.1 hy with hy | hy
        · exact hua y hy
        · simp only [List.mem_singleton] at hy
          rw [hy]
          exact U_getD hu _)
    by_cases hk : (k : Int) < (pk.length : Int)
    · obtain ⟨path, e, g1, g2⟩ := go (pk.getD k 0)
      obtain ⟨q1, q2⟩ := pick_ok (pk.getD k 0) ha ha9
      refine ⟨path, ?_, g1, g2⟩
      rw [Le_law06_MerkleShown_12]
      unfold ltree_law06_MerkleShown_12
      rw [cd_t (by omega), cd_t hk, cd_t (by omega), cd_t hk, c_t hne, c_t hne, Int.toNat_natCast, cd_t q1, cd_t q2, cd_t (by simp; omega), e1, List.nil_append]
      exact e
    · obtain ⟨path, e, g1, g2⟩ := go 0
      obtain ⟨q1, q2⟩ := pick_ok 0 ha ha9
      refine ⟨path, ?_, g1, g2⟩
      rw [Le_law06_MerkleShown_12]
      unfold ltree_law06_MerkleShown_12
      rw [cd_t (by omega), cd_f hk, c_t hne, c_t hne, cd_t q1, cd_t q2, cd_t (by simp; omega), e1, List.nil_append]
      exact e
theorem tree_lens : ∀ {tr : List (List Int)}, ShpL tr → tr.length ≤ 9 → ∀ l, l ∈ tr → l.length ≤ 1000
  | [], h, _, l, hl => by cases hl
  | m :: r, h, h9, l, hl => by
    rcases List.mem_cons.1 hl with rfl | hl
    · have := shp_pow l r h
      have : 2 ^ r.length ≤ 2 ^ 8 := Nat.pow_le_pow_right (by decide) (by simp at h9; omega)
      omega
    · cases r with
      | nil => cases hl
      | cons m' r => exact tree_lens h.2 (by simp at h9 ⊢; omega) l hl

theorem MerkleShown_plain {draws : List Int} {d : Int} {ls : List ByteArray} {i : Int} {s : ByteArray} {p pk : List Int} (hdr : ∀ x, x ∈ draws → U x) (hdl : draws.length ≤ 17592186044416) (hls : ∀ s, s ∈ ls → s.size ≤ 140737488355328) (hll : ls.length ≤ 1000000000000000)
    (hs : s.size ≤ 140737488355328) : F_law06_MerkleShown ((draws, d, ls, ()), (i, s, p, ()), pk, ()) () = some (true, ()) := by
  rw [Fe_law06_MerkleShown]
  unfold tree_law06_MerkleShown
  rw [e_New hdl]
  simp only [Option.bind_some]
  have w := wf_new hdr
  have hd0 : (Or.new draws).drawn ≤ 2000000000000000000 := by show (0 : Int) ≤ _; decide
  generalize Or.new draws = o at w hd0 ⊢
  obtain ⟨hB1, hB2⟩ := e_Build (o := o) (d := d) (ls := ls) w (by omega) hls
  rw [e_fixed06]
  by_cases ok : okBuild d ls
  · have hB := hB1 ok
    obtain ⟨g0, g8, gl⟩ := ok
    obtain ⟨n, rfl⟩ : ∃ n : Nat, d = (n : Int) := ⟨d.toNat, by omega⟩
    simp only [Int.toNat_natCast] at hB gl
    obtain ⟨w3, x3, d3, t3, u3, len3, hl3, lf3⟩ := build_wf (ls := ls) (d := n) w (by omega) (by omega)
    have hB' : F_merkle_Build ((n : Int), ls, ()) ((o.m.1.1, o.m.1.2.1, o.m.1.2.2.1, ()), o.m.2.1, o.m.2.2.1, o.m.2.2.2.1, o.m.2.2.2.2.1, o.m.2.2.2.2.2.1, o.m.2.2.2.2.2.2.1, o.m.2.2.2.2.2.2.2.1, ()) = _ := hB
    rw [hB']
    simp only [Option.bind_some, Bool.not_true, cond_false]
    have h9 : (buildS n ls o).1.length ≤ 9 := by rw [len3]; omega
    have hne : 0 < (buildS n ls o).1.length := by omega
    obtain ⟨all, e7, u7, _, l7, l7'⟩ := all_loop pk (buildS n ls o).1 draws n ls i s p (buildS n ls o).2 h9 u3 (tree_lens (shp_of_tree t3) h9) (buildS n ls o).1.length 0 [] (by omega) (by simp) (by intro x hx; cases hx)
    have hall : 0 < all.length := by
      have h1 := l7' hne
      have h2 : (buildS n ls o).1.getD 0 [] = (buildS n ls o).1.headD [] := by
        cases (buildS n ls o).1 with
        | nil => rfl
        | cons => rfl
      rw [h2, hl3] at h1
      have : 0 < 2 ^ n := Nat.pow_pos (by decide)
      omega
    obtain ⟨q, e12, lq, uq⟩ := picks_loop pk (buildS n ls o).1 all draws n (by omega) ls i s p (buildS n ls o).2 hall l7 u7 n 0 [] (by omega) rfl (by intro x hx; cases hx)
    rw [show ((0 : Nat) : Int) = 0 from rfl] at e7 e12
    have e7' : L_law06_MerkleShown_7 (pk, (buildS n ls o).1, 0, ()) ([], (draws, (n : Int), ls, ()), (i, s, p, ()), (((buildS n ls o).2.m.1.1, (buildS n ls o).2.m.1.2.1, (buildS n ls o).2.m.1.2.2.1, ()), (buildS n ls o).2.m.2.1, (buildS n ls o).2.m.2.2.1, (buildS n ls o).2.m.2.2.2.1, (buildS n ls o).2.m.2.2.2.2.1, (buildS n ls o).2.m.2.2.2.2.2.1, (buildS n ls o).2.m.2.2.2.2.2.2.1, (buildS n ls o).2.m.2.2.2.2.2.2.2.1, ())) = _ := e7
    rw [e7']
    simp only [Option.bind_some]
    have e12' : L_law06_MerkleShown_12 (pk, (buildS n ls o).1, 0, ()) (all, [], (draws, (n : Int), ls, ()), (i, s, p, ()), (((buildS n ls o).2.m.1.1, (buildS n ls o).2.m.1.2.1, (buildS n ls o).2.m.1.2.2.1, ()), (buildS n ls o).2.m.2.1, (buildS n ls o).2.m.2.2.1, (buildS n ls o).2.m.2.2.2.1, (buildS n ls o).2.m.2.2.2.2.1, (buildS n ls o).2.m.2.2.2.2.2.1, (buildS n ls o).2.m.2.2.2.2.2.2.1, (buildS n ls o).2.m.2.2.2.2.2.2.2.1, ())) = _ := e12
    rw [e12']
    simp only [Option.bind_some]
    have hP := e_Path (shp_of_tree t3) h9 i
    obtain ⟨hC1, hC2⟩ := e_Climb (o := (buildS n ls o).2) (i := i) (p := q) (s := s) w3 (by omega) hs uq
    have hpow : (2 : Int) ^ q.length = ((2 ^ n : Nat) : Int) := by rw [lq]; simp
    rw [hP]
    by_cases hin : 0 ≤ i ∧ i < (((buildS n ls o).1.headD []).length : Int)
    · rw [if_pos hin]
      rw [hl3] at hin
      have hC := hC1 ⟨by omega, hin.1, by rw [hpow]; exact hin.2⟩
      obtain ⟨j, rfl⟩ : ∃ j : Nat, i = (j : Int) := ⟨i.toNat, by omega⟩
      simp only [Int.toNat_natCast] at hC ⊢
      have hC' : F_merkle_Climb (s, (j : Int), q, ()) (((buildS n ls o).2.m.1.1, (buildS n ls o).2.m.1.2.1, (buildS n ls o).2.m.1.2.2.1, ()), (buildS n ls o).2.m.2.1, (buildS n ls o).2.m.2.2.1, (buildS n ls o).2.m.2.2.2.1, (buildS n ls o).2.m.2.2.2.2.1, (buildS n ls o).2.m.2.2.2.2.2.1, (buildS n ls o).2.m.2.2.2.2.2.2.1, (buildS n ls o).2.m.2.2.2.2.2.2.2.1, ()) = _ := hC
      simp only [Option.bind_some]
      rw [hC']
      simp only [Option.bind_some, bne_self_eq_false, cond_false, Bool.not_true]
      obtain ⟨w5, hk⟩ := bind_core w hd0 (d := n) (i := j) (by omega) (ls := ls) (s := s) lq uq (by omega)
      generalize hc : climbS ((buildS n ls o).2.hash (leafT s)).1 j q ((buildS n ls o).2.hash (leafT s)).2 = c at hk ⊢
      have hbad : F_ideal_Oracle_Bad () ((c.2.m.1.1, c.2.m.1.2.1, c.2.m.1.2.2.1, ()), c.2.m.2.1, c.2.m.2.2.1, c.2.m.2.2.2.1, c.2.m.2.2.2.2.1, c.2.m.2.2.2.2.2.1, c.2.m.2.2.2.2.2.2.1, c.2.m.2.2.2.2.2.2.2.1, ()) = some (c.2.bad, ()) := e_Bad c.2
      rw [hbad]
      simp only [Option.bind_some]
      cases hb : c.2.bad with
      | true => rfl
      | false =>
        rw [cond_false]
        exact fin_bind (shp_of_tree t3) h9 len3 (by omega) (by omega) (hk hb)
    · rw [if_neg hin]
      rw [hl3] at hin
      have hC := hC2 (fun h => hin ⟨h.2.1, by have := h.2.2; rw [hpow] at this; exact this⟩)
      have hC' : F_merkle_Climb (s, i, q, ()) (((buildS n ls o).2.m.1.1, (buildS n ls o).2.m.1.2.1, (buildS n ls o).2.m.1.2.2.1, ()), (buildS n ls o).2.m.2.1, (buildS n ls o).2.m.2.2.1, (buildS n ls o).2.m.2.2.2.1, (buildS n ls o).2.m.2.2.2.2.1, (buildS n ls o).2.m.2.2.2.2.2.1, (buildS n ls o).2.m.2.2.2.2.2.2.1, (buildS n ls o).2.m.2.2.2.2.2.2.2.1, ()) = _ := hC
      simp only [Option.bind_some]
      rw [hC']
      rfl
  · have hB := hB2 ok
    have hB' : F_merkle_Build (d, ls, ()) ((o.m.1.1, o.m.1.2.1, o.m.1.2.2.1, ()), o.m.2.1, o.m.2.2.1, o.m.2.2.2.1, o.m.2.2.2.2.1, o.m.2.2.2.2.2.1, o.m.2.2.2.2.2.2.1, o.m.2.2.2.2.2.2.2.1, ()) = _ := hB
    rw [hB']
    rfl

/-! ### two trees -/
theorem same_loop (a b : List (List Int)) (la lb : List ByteArray) (dr : List Int) (dp : Int) (o : Or) (ha : la.length ≤ 1000000000000000) (hb : lb.length ≤ 1000000000000000) : ∀ (d k : Nat) (sm : Bool), k + d = max la.length lb.length →
    ∃ r : Bool, L_law06_MerkleUnlike_8 (la, a, b, sm, (k : Int), ()) ((dr, dp, lb, ()), (o.draws, o.drawn, o.bad, ()), o.issued, o.met, o.hashes, o.tags, o.seals, o.opens, o.plains, ()) =
      some ((a, b, r, ()), ((dr, dp, lb, ()), ())) ∧ (r = true ↔ sm = true ∧ ∀ i, k ≤ i → la.getD i ByteArray.empty = lb.getD i ByteArray.empty)
  | 0, k, sm, h => by
    refine ⟨sm, ?_, ?_⟩
    · rw [Le_law06_MerkleUnlike_8]
      unfold ltree_law06_MerkleUnlike_8
      rw [cd_f (by omega), cd_f (by omega)]
    · constructor
      · intro e
        refine ⟨e, fun i hi => ?_⟩
        rw [List.getD_eq_getElem?_getD, List.getD_eq_getElem?_getD, List.getElem?_eq_none (by omega), List.getElem?_eq_none (by omega)]
      · exact fun e => e.1
  | d + 1, k, sm, h => by
    have e1 : IntKind.i64.wrap ((k : Int) + 1) = ((k + 1 : Nat) : Int) := by rw [i64id (by omega) (by omega)]; simp
    obtain ⟨r, e, hr⟩ := same_loop a b la lb dr dp o ha hb d (k + 1) (sm && ((la.getD k ByteArray.empty).toList == (lb.getD k ByteArray.empty).toList)) (by omega)
    have ga : ¬ (k : Int) < (la.length : Int) → la.getD k ByteArray.empty = ByteArray.empty := fun hk => by
      rw [List.getD_eq_getElem?_getD, List.getElem?_eq_none (by omega)]; rfl
    have gb : ¬ (k : Int) < (lb.length : Int) → lb.getD k ByteArray.empty = ByteArray.empty := fun hk => by
      rw [List.getD_eq_getElem?_getD, List.getElem?_eq_none (by omega)]; rfl
    refine ⟨r, ?_, ?_⟩
    · rw [Le_law06_MerkleUnlike_8]
      unfold ltree_law06_MerkleUnlike_8
      by_cases hka : (k : Int) < (la.length : Int)
      · rw [cd_t hka, cd_t hka, cd_t (by omega), cd_t hka]
        by_cases hkb : (k : Int) < (lb.length : Int)
        · rw [cd_t hkb, cd_t (by omega), cd_t hkb, Int.toNat_natCast, e1]
          cases sm <;> exact e
        · rw [gb hkb] at e
          rw [cd_f hkb, Int.toNat_natCast, e1]
          cases sm <;> exact e
      · rw [ga hka] at e
        have hkb : (k : Int) < (lb.length : Int) := by omega
        rw [cd_f hka, cd_t hkb, cd_f hka, cd_t hkb, cd_t (by omega), cd_t hkb, Int.toNat_natCast, e1]
        cases sm <;> exact e
    · rw [hr, Bool.and_eq_true, bytes_beq, decide_eq_true_eq]
      constructor
      · rintro ⟨⟨h1, h2⟩, h3⟩
        refine ⟨h1, fun i hi => ?_⟩
        rcases Nat.lt_or_ge k i with h4 | h4
        · exact h3 i h4
        · obtain rfl : i = k := by omega
          exact h2
      · rintro ⟨h1, h2⟩
        exact ⟨⟨h1, h2 k (Nat.le_refl _)⟩, fun i hi => h2 i (by omega)⟩
theorem MerkleUnlike_plain {draws : List Int} {d : Int} {ls ms : List ByteArray} (hdr : ∀ x, x ∈ draws → U x) (hdl : draws.length ≤ 17592186044416) (hls : ∀ s, s ∈ ls → s.size ≤ 140737488355328) (hll : ls.length ≤ 1000000000000000)
    (hms : ∀ s, s ∈ ms → s.size ≤ 140737488355328) (hml : ms.length ≤ 1000000000000000) : F_law06_MerkleUnlike ((draws, d, ls, ()), ms, ()) () = some (true, ()) := by
  rw [Fe_law06_MerkleUnlike]
  unfold tree_law06_MerkleUnlike
  rw [e_New hdl]
  simp only [Option.bind_some]
  have w := wf_new hdr
  have hd0 : (Or.new draws).drawn ≤ 1000000000000000000 := by show (0 : Int) ≤ _; decide
  generalize Or.new draws = o at w hd0 ⊢
  obtain ⟨hB1, hB2⟩ := e_Build (o := o) (d := d) (ls := ls) w (by omega) hls
  rw [e_fixed06]
  by_cases ok : okBuild d ls
  · have hB := hB1 ok
    obtain ⟨g0, g8, gl⟩ := ok
    obtain ⟨n, rfl⟩ : ∃ n : Nat, d = (n : Int) := ⟨d.toNat, by omega⟩
    simp only [Int.toNat_natCast] at hB gl
    obtain ⟨w3, x3, d3, t3, u3, len3, hl3, lf3⟩ := build_wf (ls := ls) (d := n) w (by omega) (by omega)
    have hB' : F_merkle_Build ((n : Int), ls, ()) ((o.m.1.1, o.m.1.2.1, o.m.1.2.2.1, ()), o.m.2.1, o.m.2.2.1, o.m.2.2.2.1, o.m.2.2.2.2.1, o.m.2.2.2.2.2.1, o.m.2.2.2.2.2.2.1, o.m.2.2.2.2.2.2.2.1, ()) = _ := hB
    rw [hB']
    simp only [Option.bind_some, Bool.not_true, cond_false]
    obtain ⟨hD1, hD2⟩ := e_Build (o := (buildS n ls o).2) (d := (n : Int)) (ls := ms) w3 (by omega) hms
    by_cases ok2 : okBuild (n : Int) ms
    · have hD := hD1 ok2
      obtain ⟨_, _, gm⟩ := ok2
      simp only [Int.toNat_natCast] at hD gm
      obtain ⟨w4, x4, d4, t4, u4, len4, hl4, lf4⟩ := build_wf (ls := ms) (d := n) w3 (by omega) (by omega)
      have hD' : F_merkle_Build ((n : Int), ms, ()) (((buildS n ls o).2.m.1.1, (buildS n ls o).2.m.1.2.1, (buildS n ls o).2.m.1.2.2.1, ()), (buildS n ls o).2.m.2.1, (buildS n ls o).2.m.2.2.1, (buildS n ls o).2.m.2.2.2.1, (buildS n ls o).2.m.2.2.2.2.1, (buildS n ls o).2.m.2.2.2.2.2.1, (buildS n ls o).2.m.2.2.2.2.2.2.1, (buildS n ls o).2.m.2.2.2.2.2.2.2.1, ()) = _ := hD
      rw [hD']
      simp only [Option.bind_some, Bool.not_true, cond_false]
      generalize hc : buildS n ms (buildS n ls o).2 = c at *
      have hbad : F_ideal_Oracle_Bad () ((c.2.m.1.1, c.2.m.1.2.1, c.2.m.1.2.2.1, ()), c.2.m.2.1, c.2.m.2.2.1, c.2.m.2.2.2.1, c.2.m.2.2.2.2.1, c.2.m.2.2.2.2.2.1, c.2.m.2.2.2.2.2.2.1, c.2.m.2.2.2.2.2.2.2.1, ()) = some (c.2.bad, ()) := e_Bad c.2
      rw [hbad]
      simp only [Option.bind_some]
      cases hb : c.2.bad with
      | true => rfl
      | false =>
        rw [cond_false]
        obtain ⟨r, e8, hr⟩ := same_loop (buildS n ls o).1 c.1 ms ls draws n c.2 hml hll (max ms.length ls.length) 0 true (by omega)
        rw [show ((0 : Nat) : Int) = 0 from rfl] at e8
        have e8' : L_law06_MerkleUnlike_8 (ms, (buildS n ls o).1, c.1, Bool.true, 0, ()) ((draws, (n : Int), ls, ()), ((c.2.m.1.1, c.2.m.1.2.1, c.2.m.1.2.2.1, ()), c.2.m.2.1, c.2.m.2.2.1, c.2.m.2.2.2.1, c.2.m.2.2.2.2.1, c.2.m.2.2.2.2.2.1, c.2.m.2.2.2.2.2.2.1, c.2.m.2.2.2.2.2.2.2.1, ())) = _ := e8
        rw [e8']
        simp only [Option.bind_some, Int.toNat_natCast]
        have hre := roots_eq (tab_inj w4 hb) (buildS n ls o).1 c.1 (x4.tree t3) t4 u3 u4 (by omega)
        obtain ⟨q1, q2⟩ := root_get (shp_of_tree t3)
        obtain ⟨q3, q4⟩ := root_get (shp_of_tree t4)
        rw [show (buildS n ls o).1.length - 1 = n by omega] at q1 q2
        rw [show c.1.length - 1 = n by omega] at q3 q4
        rw [cd_t (by omega), cd_t (by omega), cd_t (by omega), cd_t (by omega), cd_t (by omega), cd_t (by omega), ← q2, ← q4]
        have hhead : (buildS n ls o).1.headD [] = c.1.headD [] ↔ r = true := by
          rw [hr]
          constructor
          · intro he
            refine ⟨rfl, fun i _ => ?_⟩
            by_cases hi : i < 2 ^ n
            · have h1 := x4.per _ _ (lf3 i hi)
              have h2 := lf4 i hi
              rw [he] at h1
              exact (leafT_inj (tab_inj w4 hb _ _ _ h1 h2)).symm
            · rw [List.getD_eq_getElem?_getD, List.getD_eq_getElem?_getD, List.getElem?_eq_none (by omega), List.getElem?_eq_none (by omega)]
          · rintro ⟨_, he⟩
            refine list_ext0 (by omega) fun i hi => ?_
            rw [hl3] at hi
            have h1 := x4.per _ _ (lf3 i hi)
            have h2 := lf4 i hi
            rw [he i (Nat.zero_le _)] at h2
            exact Option.some.inj (h1.symm.trans h2)
        rw [← hre] at hhead
        cases r with
        | true =>
          have : rootT (buildS n ls o).1 = rootT c.1 := hhead.2 rfl
          rw [this, beq_self_eq_true]
          rfl
        | false =>
          have : rootT (buildS n ls o).1 ≠ rootT c.1 := fun h => by cases hhead.1 h
          rw [beq_false_of_ne this]
          rfl
    · have hD := hD2 ok2
      have hD' : F_merkle_Build ((n : Int), ms, ()) (((buildS n ls o).2.m.1.1, (buildS n ls o).2.m.1.2.1, (buildS n ls o).2.m.1.2.2.1, ()), (buildS n ls o).2.m.2.1, (buildS n ls o).2.m.2.2.1, (buildS n ls o).2.m.2.2.2.1, (buildS n ls o).2.m.2.2.2.2.1, (buildS n ls o).2.m.2.2.2.2.2.1, (buildS n ls o).2.m.2.2.2.2.2.2.1, (buildS n ls o).2.m.2.2.2.2.2.2.2.1, ()) = _ := hD
      rw [hD']
      rfl
  · have hB := hB2 ok
    have hB' : F_merkle_Build (d, ls, ()) ((o.m.1.1, o.m.1.2.1, o.m.1.2.2.1, ()), o.m.2.1, o.m.2.2.1, o.m.2.2.2.1, o.m.2.2.2.2.1, o.m.2.2.2.2.2.1, o.m.2.2.2.2.2.2.1, o.m.2.2.2.2.2.2.2.1, ()) = _ := hB
    rw [hB']
    simp only [Option.bind_some, Bool.not_true, Bool.not_false, cond_true, cond_false]
    obtain ⟨hD1, hD2⟩ := e_Build (o := o) (d := d) (ls := ms) w (by omega) hms
    by_cases ok2 : okBuild d ms
    · have hD := hD1 ok2
      have hD' : F_merkle_Build (d, ms, ()) ((o.m.1.1, o.m.1.2.1, o.m.1.2.2.1, ()), o.m.2.1, o.m.2.2.1, o.m.2.2.2.1, o.m.2.2.2.2.1, o.m.2.2.2.2.2.1, o.m.2.2.2.2.2.2.1, o.m.2.2.2.2.2.2.2.1, ()) = _ := hD
      rw [hD']
      rfl
    · have hD := hD2 ok2
      have hD' : F_merkle_Build (d, ms, ()) ((o.m.1.1, o.m.1.2.1, o.m.1.2.2.1, ()), o.m.2.1, o.m.2.2.1, o.m.2.2.2.1, o.m.2.2.2.2.1, o.m.2.2.2.2.2.1, o.m.2.2.2.2.2.2.1, o.m.2.2.2.2.2.2.2.1, ()) = _ := hD
      rw [hD']
      rfl
end Go.Proofs.Ytljfdfghagiblaa.S2.Mk
