/- Laws of the tree of hashes: what climbs to the root, and trees with one root, in plain words. -/
import Derived.Test.YtljfdfghagiblaaPmk3
import Derived.Test.YtljfdfghagiblaaGLMerkleUnlike
import Derived.Test.YtljfdfghagiblaaGLMerkleBinds
import Derived.Test.YtljfdfghagiblaaGLMerkleShown
set_option linter.unusedVariables false
set_option linter.unusedSimpArgs false
namespace Go.Proofs.Ytljfdfghagiblaa.S2.Mk
open Go Go.Proofs.Ytljfdfghagiblaa.S2

theorem root_get : ∀ {tr : List (List Int)}, ShpL tr → (tr.getD (tr.length - 1) []).length = 1 ∧ rootT tr = (tr.getD (tr.length - 1) []).getD 0 0
  | [], h => h.elim
  | [l], h => ⟨h, rfl⟩
  | l :: l' :: r, h => by
    obtain ⟨h1, h2⟩ := root_get (tr := l' :: r) h.2
    have e : (l :: l' :: r).getD ((l :: l' :: r).length - 1) [] = (l' :: r).getD ((l' :: r).length - 1) [] := by
      simp only [List.length_cons, List.getD_eq_getElem?_getD]
      rw [show r.length + 1 + 1 - 1 = (r.length + 1 - 1) + 1 by omega, List.getElem?_cons_succ]
    rw [e]
    exact ⟨h1, h2⟩
theorem tab_inj {o : Or} (w : Wf o) (hb : o.bad = false) : ∀ t t' h, o.tab t = some h → o.tab t' = some h → t = t' := w.inj hb
theorem tab_U {o : Or} (w : Wf o) : ∀ t x, o.tab t = some x → U x := fun t x h => (w.val t x h).1
theorem Ext.tree {a b : Or} (x : Ext a b) {t : List (List Int)} (h : TreeT a.tab t) : TreeT b.tab t := TreeT_ext x.per h

/-- What climbs to the root of the tree of leaves. -/
theorem bind_core {o : Or} (w : Wf o) (hd : o.drawn ≤ 2000000000000000000) {d i : Nat} (h8 : d ≤ 8) {ls : List ByteArray} {s : ByteArray} {p : List Int} (hp : p.length = d) (hu : ∀ x, x ∈ p → U x) (hi : i < 2 ^ d) :
    let tr := (buildS d ls o).1
    let o3 := (buildS d ls o).2
    let c := climbS (o3.hash (leafT s)).1 i p (o3.hash (leafT s)).2
    Wf c.2 ∧ (c.2.bad = false → (c.1 = rootT tr ↔ s = ls.getD i ByteArray.empty ∧ p = pathT tr i)) := by
  obtain ⟨w3, x3, d3, t3, u3, len3, hl3, lf3⟩ := build_wf (ls := ls) w h8 (by omega)
  obtain ⟨w4, x4, d4, f4⟩ := hash_wf w3 (leafT s) (by omega)
  obtain ⟨w5, x5, d5, u5, f5⟩ := climb_wf p (((buildS d ls o).2).hash (leafT s)).1 i w4 (by unfold Lim; omega) (w4.val _ _ f4).1
  refine ⟨w5, fun hb => ?_⟩
  have h1 := climb_root (tab_inj w5 hb) (buildS d ls o).1 p _ i _ (x5.tree (x4.tree t3)) u3 (w4.val _ _ f4).1 hu (tab_U w5) (by rw [hl3]; exact hi) (by rw [hp, len3]) f5
  rw [h1]
  have hT1 : (climbS (((buildS d ls o).2).hash (leafT s)).1 i p (((buildS d ls o).2).hash (leafT s)).2).2.tab (leafT s) = some (((buildS d ls o).2).hash (leafT s)).1 := x5.per _ _ f4
  have hT2 := x5.per _ _ (x4.per _ _ (lf3 i hi))
  constructor
  · rintro ⟨e1, e2⟩
    refine ⟨?_, e2⟩
    exact leafT_inj (tab_inj w5 hb _ _ _ (hT1.trans (congrArg some e1)) hT2)
  · rintro ⟨e1, e2⟩
    refine ⟨?_, e2⟩
    rw [← e1] at hT2
    exact Option.some.inj (hT1.symm.trans hT2)

/-- The last steps of both laws. -/
theorem fin_bind {tr : List (List Int)} (hs : ShpL tr) (h9 : tr.length ≤ 9) {d : Nat} (hlen : tr.length = d + 1) {i : Nat} {h : Int} {ls : List ByteArray} {s : ByteArray} {p : List Int} (hp : p.length ≤ 1000000000000000) (hl : ls.length ≤ 1000000000000000000)
    (hk : h = rootT tr ↔ s = ls.getD i ByteArray.empty ∧ p = pathT tr i) :
    cond (decide ((i : Int) < (ls.length : Int)))
      (cond (decide (0 ≤ (i : Int))) (cond (decide ((i : Int) < (ls.length : Int))) (cond (decide (0 ≤ (d : Int))) (cond (decide ((d : Int) < (tr.length : Int))) (cond (decide (0 < ((tr.getD (d : Int).toNat []).length : Int)))
        (cond (s.toList == (ls.getD (i : Int).toNat ByteArray.empty).toList) ((F_ref01_Nums (p, pathT tr i, ()) ()).bind fun r => some ((h == (tr.getD (d : Int).toNat []).getD 0 0) == r.1, ())) (some ((h == (tr.getD (d : Int).toNat []).getD 0 0) == false, ()))) none) none) none) none) none)
      (cond (decide (0 ≤ (d : Int))) (cond (decide ((d : Int) < (tr.length : Int))) (cond (decide (0 < ((tr.getD (d : Int).toNat []).length : Int)))
        (cond (s.toList == ByteArray.empty.toList) ((F_ref01_Nums (p, pathT tr i, ()) ()).bind fun r => some ((h == (tr.getD (d : Int).toNat []).getD 0 0) == r.1, ())) (some ((h == (tr.getD (d : Int).toNat []).getD 0 0) == false, ()))) none) none) none) = some (true, ()) := by
  obtain ⟨h1, h2⟩ := root_get hs
  rw [show tr.length - 1 = d by omega] at h1 h2
  have hpl : (pathT tr i).length ≤ 1000000000000000 := by
    have : ∀ (t : List (List Int)) (j : Nat), (pathT t j).length ≤ t.length := by
      intro t
      induction t with
      | nil => intro j; simp [pathT]
      | cons l r ih =>
        intro j
        cases r with
        | nil => simp [pathT]
        | cons l' r =>
          have := ih (j / 2)
          simp only [pathT, List.length_cons] at this ⊢
          omega
    have := this tr i
    omega
  have key : ∀ (leaf : ByteArray), leaf = ls.getD i ByteArray.empty → (cond (s.toList == leaf.toList) ((F_ref01_Nums (p, pathT tr i, ()) ()).bind fun r => some ((h == (tr.getD d []).getD 0 0) == r.1, ())) (some ((h == (tr.getD d []).getD 0 0) == false, ()))) = some (true, ()) := by
    intro leaf hleaf
    rw [bytes_beq, e_Nums hp hpl, ← h2]
    simp only [Option.bind_some]
    by_cases e1 : s = leaf
    · rw [cd_t e1]
      by_cases e2 : p = pathT tr i
      · have : h = rootT tr := hk.2 ⟨e1.trans hleaf, e2⟩
        rw [decide_eq_true e2, this, beq_self_eq_true]
        rfl
      · have : h ≠ rootT tr := fun hh => e2 (hk.1 hh).2
        rw [decide_eq_false e2, beq_false_of_ne this]
        rfl
    · rw [cd_f e1]
      have : h ≠ rootT tr := fun hh => e1 ((hk.1 hh).1.trans hleaf.symm)
      rw [beq_false_of_ne this]
      rfl
  simp only [Int.toNat_natCast]
  have hpos : (0 : Int) < ((tr.getD d []).length : Int) := by rw [h1]; decide
  by_cases hi : (i : Int) < (ls.length : Int)
  · rw [cd_t hi, cd_t (by omega), cd_t hi, cd_t (by omega), cd_t (by omega), cd_t hpos]
    exact key _ rfl
  · rw [cd_f hi, cd_t (by omega), cd_t (by omega), cd_t hpos]
    refine key _ ?_
    rw [List.getD_eq_getElem?_getD, List.getElem?_eq_none (by omega)]
    rfl

theorem meet_wf {o : Or} (w : Wf o) (h : Int) : Wf (o.meet h) ∧ (o.meet h).drawn = o.drawn := by
  unfold Or.meet
  split
  · exact ⟨⟨w.d0, w.du, w.cnt, w.val, w.inj⟩, rfl⟩
  · exact ⟨w, rfl⟩
theorem meets3 (x2 : List Int) (x3 : Int) (x4 : List ByteArray) (x5 : Int) (x6 : ByteArray) (p : List Int) : ∀ (d k : Nat) (o : Or), k + d = Min.min p.length 9 → Wf o →
    ∃ o' : Or, L_law06_MerkleBinds_3 ((k : Int), ()) ((x2, x3, x4, ()), (x5, x6, p, ()), (o.draws, o.drawn, o.bad, ()), o.issued, o.met, o.hashes, o.tags, o.seals, o.opens, o.plains, ()) =
      some ((), ((x2, x3, x4, ()), (x5, x6, p, ()), o'.m)) ∧ Wf o' ∧ o'.drawn = o.drawn
  | 0, k, o, h, w => by
    refine ⟨o, ?_, w, rfl⟩
    rw [Le_law06_MerkleBinds_3]
    unfold ltree_law06_MerkleBinds_3
    by_cases hk : (k : Int) < (p.length : Int)
    · rw [cd_t hk, cd_f (by omega)]
      rfl
    · rw [cd_f hk]
      rfl
  | d + 1, k, o, h, w => by
    obtain ⟨w1, d1⟩ := meet_wf w (p.getD k 0)
    obtain ⟨o', e, w', d'⟩ := meets3 x2 x3 x4 x5 x6 p d (k + 1) (o.meet (p.getD k 0)) (by omega) w1
    refine ⟨o', ?_, w', d'.trans d1⟩
    have e1 : IntKind.i64.wrap ((k : Int) + 1) = ((k + 1 : Nat) : Int) := by rw [i64id (by omega) (by omega)]; simp
    have hm := e_Meet o (p.getD k 0)
    unfold Or.m at hm
    rw [Le_law06_MerkleBinds_3]
    unfold ltree_law06_MerkleBinds_3
    rw [cd_t (by omega), cd_t (by omega), cd_t (by omega), cd_t (by omega), Int.toNat_natCast, hm]
    simp only [Option.bind_some]
    rw [e1]
    exact e

theorem MerkleBinds_plain {draws : List Int} {d : Int} {ls : List ByteArray} {i : Int} {s : ByteArray} {p : List Int} (hdr : ∀ x, x ∈ draws → U x) (hdl : draws.length ≤ 17592186044416) (hls : ∀ s, s ∈ ls → s.size ≤ 140737488355328) (hll : ls.length ≤ 1000000000000000)
    (hs : s.size ≤ 140737488355328) (hp : ∀ x, x ∈ p → U x) (hpl : p.length ≤ 1000000000000000) : F_law06_MerkleBinds ((draws, d, ls, ()), (i, s, p, ()), ()) () = some (true, ()) := by
  rw [Fe_law06_MerkleBinds]
  unfold tree_law06_MerkleBinds
  rw [e_New hdl]
  simp only [Option.bind_some]
  obtain ⟨o, em, w, dm⟩ := meets3 draws d ls i s p (Min.min p.length 9) 0 (Or.new draws) (by omega) (wf_new hdr)
  rw [show ((0 : Nat) : Int) = 0 from rfl] at em
  have em' : L_law06_MerkleBinds_3 (0, ()) ((draws, d, ls, ()), (i, s, p, ()), ((Or.new draws).m.1.1, (Or.new draws).m.1.2.1, (Or.new draws).m.1.2.2.1, ()), (Or.new draws).m.2.1, (Or.new draws).m.2.2.1, (Or.new draws).m.2.2.2.1, (Or.new draws).m.2.2.2.2.1, (Or.new draws).m.2.2.2.2.2.1, (Or.new draws).m.2.2.2.2.2.2.1, (Or.new draws).m.2.2.2.2.2.2.2.1, ()) = _ := em
  rw [em']
  simp only [Option.bind_some]
  have hd0 : o.drawn ≤ 2000000000000000000 := by rw [dm]; show (0 : Int) ≤ _; decide
  obtain ⟨hB1, hB2⟩ := e_Build (o := o) (d := d) (ls := ls) w (by omega) hls
  rw [e_fixed06]
  by_cases ok : okBuild d ls
  · have hB := hB1 ok
    obtain ⟨g0, g8, gl⟩ := ok
    obtain ⟨n, rfl⟩ : ∃ n : Nat, d = (n : Int) := ⟨d.toNat, by omega⟩
    simp only [Int.toNat_natCast] at hB gl
    obtain ⟨w3, x3, d3, t3, u3, len3, hl3, lf3⟩ := build_wf (ls := ls) (d := n) w (by omega) (by omega)
    have hB' : F_merkle_Build ((n : Int), ls, ()) ((o.m.1.1, o.m.1.2.1, o.m.1.2.2.1, ()), o.m.2.1, o.m.2.2.1, o.m.2.2.2.1, o.m.2.2.2.2.1, o.m.2.2.2.2.2.1, o.m.2.2.2.2.2.2.1, o.m.2.2.2.2.2.2.2.1, ()) = _ := hB
    rw [hB']
    simp only [Option.bind_some, Bool.not_true, cond_false]
    by_cases hpn : p.length = n
    · rw [c_f (by rw [hpn]; exact bne_self_eq_false _)]
      have hP := e_Path (shp_of_tree t3) (by rw [len3]; omega) i
      obtain ⟨hC1, hC2⟩ := e_Climb (o := (buildS n ls o).2) (i := i) (p := p) (s := s) w3 (by omega) hs hp
      have hpow : (2 : Int) ^ p.length = ((2 ^ n : Nat) : Int) := by rw [hpn]; simp
      rw [hP]
      by_cases hin : 0 ≤ i ∧ i < (((buildS n ls o).1.headD []).length : Int)
      · rw [if_pos hin]
        rw [hl3] at hin
        have hC := hC1 ⟨by omega, hin.1, by rw [hpow]; exact hin.2⟩
        obtain ⟨j, rfl⟩ : ∃ j : Nat, i = (j : Int) := ⟨i.toNat, by omega⟩
        simp only [Int.toNat_natCast] at hC ⊢
        have hC' : F_merkle_Climb (s, (j : Int), p, ()) (((buildS n ls o).2.m.1.1, (buildS n ls o).2.m.1.2.1, (buildS n ls o).2.m.1.2.2.1, ()), (buildS n ls o).2.m.2.1, (buildS n ls o).2.m.2.2.1, (buildS n ls o).2.m.2.2.2.1, (buildS n ls o).2.m.2.2.2.2.1, (buildS n ls o).2.m.2.2.2.2.2.1, (buildS n ls o).2.m.2.2.2.2.2.2.1, (buildS n ls o).2.m.2.2.2.2.2.2.2.1, ()) = _ := hC
        simp only [Option.bind_some]
        rw [hC']
        simp only [Option.bind_some, bne_self_eq_false, cond_false, Bool.not_true]
        obtain ⟨w5, hk⟩ := bind_core w hd0 (d := n) (i := j) (by omega) (ls := ls) (s := s) hpn hp (by omega)
        generalize hc : climbS ((buildS n ls o).2.hash (leafT s)).1 j p ((buildS n ls o).2.hash (leafT s)).2 = c at hk ⊢
        have hbad : F_ideal_Oracle_Bad () ((c.2.m.1.1, c.2.m.1.2.1, c.2.m.1.2.2.1, ()), c.2.m.2.1, c.2.m.2.2.1, c.2.m.2.2.2.1, c.2.m.2.2.2.2.1, c.2.m.2.2.2.2.2.1, c.2.m.2.2.2.2.2.2.1, c.2.m.2.2.2.2.2.2.2.1, ()) = some (c.2.bad, ()) := e_Bad c.2
        rw [hbad]
        simp only [Option.bind_some]
        cases hb : c.2.bad with
        | true => rfl
        | false =>
          rw [cond_false]
          exact fin_bind (shp_of_tree t3) (by rw [len3]; omega) len3 hpl (by omega) (hk hb)
      · rw [if_neg hin]
        rw [hl3] at hin
        have hC := hC2 (fun h => hin ⟨h.2.1, by have := h.2.2; rw [hpow] at this; exact this⟩)
        have hC' : F_merkle_Climb (s, i, p, ()) (((buildS n ls o).2.m.1.1, (buildS n ls o).2.m.1.2.1, (buildS n ls o).2.m.1.2.2.1, ()), (buildS n ls o).2.m.2.1, (buildS n ls o).2.m.2.2.1, (buildS n ls o).2.m.2.2.2.1, (buildS n ls o).2.m.2.2.2.2.1, (buildS n ls o).2.m.2.2.2.2.2.1, (buildS n ls o).2.m.2.2.2.2.2.2.1, (buildS n ls o).2.m.2.2.2.2.2.2.2.1, ()) = _ := hC
        simp only [Option.bind_some]
        rw [hC']
        rfl
    · rw [c_t (bne_iff_ne.2 (by omega))]
  · have hB := hB2 ok
    have hB' : F_merkle_Build (d, ls, ()) ((o.m.1.1, o.m.1.2.1, o.m.1.2.2.1, ()), o.m.2.1, o.m.2.2.1, o.m.2.2.2.1, o.m.2.2.2.2.1, o.m.2.2.2.2.2.1, o.m.2.2.2.2.2.2.1, o.m.2.2.2.2.2.2.2.1, ()) = _ := hB
    rw [hB']
    rfl
end Go.Proofs.Ytljfdfghagiblaa.S2.Mk
