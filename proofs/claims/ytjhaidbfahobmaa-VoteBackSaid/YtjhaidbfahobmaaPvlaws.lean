/- The laws of votes, in plain words. -/
import Derived.Test.YtjhaidbfahobmaaPvote3
import Derived.Test.YtjhaidbfahobmaaGlaw16
import Derived.Test.YtjhaidbfahobmaaGLVoteAsks
import Derived.Test.YtjhaidbfahobmaaGLVoteMembers
import Derived.Test.YtjhaidbfahobmaaGLVoteMeets
import Derived.Test.YtjhaidbfahobmaaGLVoteBack
set_option linter.unusedVariables false
set_option linter.unusedSimpArgs false
namespace Go.Proofs.Ytjhaidbfahobmaa.S2
open Go

theorem e_fixed16 : F_law16_fixed () () = some (true, ()) := by
  rw [Fe_law16_fixed]
  unfold tree_law16_fixed
  have o3 : onceS [1, 2, 3] = [1, 2, 3] := (onceS_eq (by decide) (fun x => Iff.rfl)).symm
  have o1 : onceS [2, 3, 1, 3] = [1, 2, 3] := (onceS_eq (by decide) (fun x => by simp only [List.mem_cons, List.not_mem_nil, or_false]; omega)).symm
  have o0 : onceS [] = [] := (onceS_eq List.Pairwise.nil (fun x => Iff.rfl)).symm
  have c1 : changeS [3, 1, 3] 2 = ([1, 2, 3], true) := by
    unfold changeS changed
    rw [if_neg (by decide : ¬ (2 : Int) ∈ [3, 1, 3]), o1]
    rfl
  have m1 : mostS [1, 2, 3] [2, 3] = true := by unfold mostS; rw [o3]; rfl
  have m2 : mostS [1, 2, 3] [1, 9] = false := by unfold mostS; rw [o3]; rfl
  have m3 : mostS [] [] = false := by unfold mostS; rw [o0]; rfl
  have a1 : askS 2 0 0 0 [] 2 5 0 0 = ((2, 6), true) := by decide
  rw [e_Ask (by omega) (by decide) (by constructor <;> omega), a1]
  simp only [Option.bind_some, List.nil_append, List.cons_append]
  rw [e_Change (by decide), c1]
  simp only [Option.bind_some]
  rw [c_t (by rfl), c_t (by rfl), e_Most (by decide) (by decide), m1]
  simp only [Option.bind_some]
  rw [c_t (by rfl), e_Most (by decide) (by decide), m2]
  simp only [Option.bind_some]
  rw [c_t (by rfl), e_Most (by decide) (by decide), m3]
  simp only [Option.bind_some]
  rw [c_t (by rfl), c_t (by rfl), e_Nums (by decide)]
  rfl
theorem VoteAsks_plain {t v b u term from_ last lastT : Int} {xs : List E} (hb : U b) (hf : U from_) (hx : xs.length ≤ 140737488355328) :
    F_law16_VoteAsks ((t, v, ()), (b, u, xs, ()), (term, from_, last, lastT, ()), ()) () = some (true, ()) := by
  rw [Fe_law16_VoteAsks]
  unfold tree_law16_VoteAsks
  rw [e_fixed16]
  simp only [Option.bind_some]
  rw [c_f (by rfl), e_May]
  simp only [Option.bind_some]
  by_cases hm : b ≤ 4611686018427387904 ∧ xs.length ≤ 256
  · rw [decide_eq_true hm, c_f (by rfl), e_Ask ⟨hb.1, hm.1⟩ hx hf, e_ref_Ask ⟨hb.1, hm.1⟩ hx hf]
    simp only [Option.bind_some]
    rw [c_t (by simp), c_t (by simp), e_Seen, e_ref_Seen]
    simp
  · rw [decide_eq_false hm, c_t (by rfl)]
theorem VoteMembers_plain {m v : List Int} {id : Int} (hv : v.length ≤ 17592186044416) : F_law16_VoteMembers (m, v, id, ()) () = some (true, ()) := by
  rw [Fe_law16_VoteMembers]
  unfold tree_law16_VoteMembers
  rw [e_fixed16]
  simp only [Option.bind_some]
  by_cases hm : m.length > 100
  · rw [cd_t (by omega)]
  · have hl := onceS_length m
    have hc : (changeS m id).1.length ≤ 1000 := by
      unfold changeS
      split
      · dsimp only; omega
      · dsimp only; omega
    rw [cd_f (by omega), e_Change (by omega), e_ref_Change (by omega)]
    simp only [Option.bind_some]
    rw [c_t rfl, e_Most (by omega) hv, e_ref_Most (by omega) hv]
    simp only [Option.bind_some]
    rw [c_t (beq_self_eq_true _), e_Nums (by omega)]
    simp

/-! majorities meet -/
theorem meet_of {p q : Int → Bool} : ∀ l : List Int, l.length < (l.filter p).length + (l.filter q).length → ∃ x ∈ l, p x = true ∧ q x = true
  | [], h => by simp at h
  | x :: l, h => by
    cases hp : p x with
    | true =>
      cases hq : q x with
      | true => exact ⟨x, List.mem_cons_self .., hp, hq⟩
      | false =>
        rw [List.filter_cons_of_pos hp, List.filter_cons_of_neg (p := q) (by simp [hq])] at h
        obtain ⟨y, h1, h2⟩ := meet_of (p := p) (q := q) l (by simp only [List.length_cons] at h; omega)
        exact ⟨y, List.mem_cons_of_mem _ h1, h2⟩
    | false =>
      cases hq : q x with
      | true =>
        rw [List.filter_cons_of_pos (p := q) hq, List.filter_cons_of_neg (p := p) (by simp [hp])] at h
        obtain ⟨y, h1, h2⟩ := meet_of (p := p) (q := q) l (by simp only [List.length_cons] at h; omega)
        exact ⟨y, List.mem_cons_of_mem _ h1, h2⟩
      | false =>
        rw [List.filter_cons_of_neg (p := q) (by simp [hq]), List.filter_cons_of_neg (p := p) (by simp [hp])] at h
        obtain ⟨y, h1, h2⟩ := meet_of (p := p) (q := q) l (by simp only [List.length_cons] at h; omega)
        exact ⟨y, List.mem_cons_of_mem _ h1, h2⟩
theorem cnt_meet {l v w : List Int} (h : l.length < cnt l v + cnt l w) : ∃ x ∈ l, x ∈ v ∧ x ∈ w := by
  obtain ⟨x, h1, h2, h3⟩ := meet_of l h
  exact ⟨x, h1, of_decide_eq_true h2, of_decide_eq_true h3⟩
theorem without_rising_length {id : Int} : ∀ {l : List Int}, l.Pairwise (fun x y => x < y) → id ∈ l → (without id l).length + 1 = l.length
  | [], _, h => by cases h
  | x :: l, hp, h => by
    obtain ⟨h1, h2⟩ := List.pairwise_cons.1 hp
    by_cases hx : x = id
    · subst hx
      have hn : x ∉ l := fun hm => by have := h1 x hm; omega
      have : without x (x :: l) = without x l := by unfold without; rw [List.filter_cons_of_neg (by simp)]
      rw [this, without_not hn, List.length_cons]
    · have hm : id ∈ l := (List.mem_cons.1 h).elim (fun e => absurd e.symm hx) fun h => h
      have : without id (x :: l) = x :: without id l := by unfold without; rw [List.filter_cons_of_pos (by simpa using hx)]
      rw [this, List.length_cons, List.length_cons, without_rising_length h2 hm]
theorem cnt_without (id : Int) (l v : List Int) : cnt (without id l) v ≤ cnt l v := by
  unfold cnt without
  exact ((List.filter_sublist (p := fun x => decide (x ≠ id)) (l := l)).filter _).length_le
theorem mostS_lt {m v : List Int} (h : mostS m v = true) : (onceS m).length < 2 * cnt (onceS m) v := of_decide_eq_true h
theorem once_rising {l : List Int} (h : l.Pairwise (fun x y => x < y)) : onceS l = l := (onceS_eq h fun x => Iff.rfl).symm
theorem changed_rising (m : List Int) (id : Int) : (changed m id).Pairwise (fun x y => x < y) := by
  unfold changed
  split
  · exact rising_filter (onceS_rising m) id
  · exact onceS_rising _
theorem added {m : List Int} {id : Int} (h : id ∉ m) : without id (onceS (id :: m)) = onceS m :=
  onceS_eq (rising_filter (onceS_rising _) id) fun x => by
    rw [mem_without, mem_onceS, List.mem_cons]
    exact ⟨fun h => h.1.elim (fun e => absurd e h.2) fun h => h, fun hx => ⟨.inr hx, fun e => h (e ▸ hx)⟩⟩
theorem meets {m v w : List Int} {id : Int} (hv : mostS m v = true) (hw : mostS m w = true ∨ (changeS m id).2 = true ∧ mostS (changeS m id).1 w = true) : ∃ n ∈ v, n ∈ w ∧ n ∈ m := by
  have hv := mostS_lt hv
  rcases hw with hw | ⟨hok, hw⟩
  · have hw := mostS_lt hw
    obtain ⟨x, h1, h2, h3⟩ := cnt_meet (l := onceS m) (v := v) (w := w) (by omega)
    exact ⟨x, h2, h3, mem_onceS.1 h1⟩
  · have hc : changeS m id = (changed m id, true) := by
      unfold changeS at hok ⊢
      split
      · rename_i h; rw [if_pos h] at hok; cases hok
      · rfl
    rw [hc] at hw
    have hw := mostS_lt hw
    rw [once_rising (changed_rising m id)] at hw
    unfold changed at hw
    by_cases h : id ∈ m
    · rw [if_pos h] at hw
      have hl := without_rising_length (onceS_rising m) (mem_onceS.2 h)
      have hcw := cnt_without id (onceS m) w
      obtain ⟨x, h1, h2, h3⟩ := cnt_meet (l := onceS m) (v := v) (w := w) (by omega)
      exact ⟨x, h2, h3, mem_onceS.1 h1⟩
    · rw [if_neg h] at hw
      have ha := added h
      have hl := without_rising_length (onceS_rising (id :: m)) (mem_onceS.2 (List.mem_cons_self ..))
      have hcv := cnt_without id (onceS (id :: m)) v
      rw [ha] at hl hcv
      have hcw : cnt (onceS (id :: m)) w ≤ cnt (onceS (id :: m)) w := Nat.le_refl _
      -- one who is in both, and who is a member already
      have h2 : (onceS (id :: m)).length < ((onceS (id :: m)).filter fun x => decide (x ∈ v) && decide (x ≠ id)).length + cnt (onceS (id :: m)) w := by
        have e : (onceS (id :: m)).filter (fun x => decide (x ∈ v) && decide (x ≠ id)) = (without id (onceS (id :: m))).filter fun x => decide (x ∈ v) := by
          unfold without
          rw [List.filter_filter]
        rw [e, ha]
        have : ((onceS m).filter fun x => decide (x ∈ v)).length = cnt (onceS m) v := rfl
        omega
      obtain ⟨x, h3, h4, h5⟩ := meet_of _ h2
      rw [Bool.and_eq_true, decide_eq_true_eq, decide_eq_true_eq] at h4
      exact ⟨x, h4.1, of_decide_eq_true h5, (List.mem_cons.1 (mem_onceS.1 h3)).elim (fun e => absurd e h4.2) fun h => h⟩
def MeetsQ (s o : Bool) (l w m : List Int) : LO_law16_VoteMeets_9 → Prop
  | .inl u => u = ((true, s, o, ()), ())
  | .inr u => u = ((s, o, ()), ()) ∧ ∀ n ∈ l, ¬ (n ∈ w ∧ n ∈ m)
theorem meets_loop (m v w : List Int) (s o : Bool) (hv : v.length ≤ 17592186044416) (hw : w.length ≤ 17592186044416) (hm : m.length ≤ 17592186044416) : ∀ (r i : Nat), i + r = v.length →
    ∃ q, L_law16_VoteMeets_9 (m, s, o, (i : Int), ()) ((v, w, ()), ()) = some q ∧ MeetsQ s o (v.drop i) w m q
  | 0, i, hr => by
    rw [Le_law16_VoteMeets_9]
    unfold ltree_law16_VoteMeets_9
    rw [cd_f (by omega)]
    refine ⟨_, rfl, rfl, ?_⟩
    rw [List.drop_of_length_le (by omega)]
    intro n hn; cases hn
  | r + 1, i, hr => by
    rw [Le_law16_VoteMeets_9]
    unfold ltree_law16_VoteMeets_9
    simp (disch := omega) only [Int.toNat_natCast, cd_t, e_Has, Option.bind_some]
    rw [show IntKind.i64.wrap ((i : Int) + 1) = ((i + 1 : Nat) : Int) by rw [i64id] <;> omega]
    obtain ⟨q, h1, h2⟩ := meets_loop m v w s o hv hw hm r (i + 1) (by omega)
    rw [drop_cons (by omega : i < v.length)]
    have next : ¬ (v.getD i 0 ∈ w ∧ v.getD i 0 ∈ m) → MeetsQ s o (v.getD i 0 :: v.drop (i + 1)) w m q := fun hne => by
      rcases q with q | q
      · exact h2
      · refine ⟨h2.1, fun n hn => ?_⟩
        rcases List.mem_cons.1 hn with rfl | hn
        · exact hne
        · exact h2.2 n hn
    by_cases hw' : v.getD i 0 ∈ w
    · rw [cd_t hw']
      by_cases hm' : v.getD i 0 ∈ m
      · rw [cd_t hm']
        exact ⟨_, rfl, rfl⟩
      · rw [cd_f hm']
        exact ⟨q, h1, next fun h => hm' h.2⟩
    · rw [cd_f hw']
      exact ⟨q, h1, next fun h => hw' h.1⟩
theorem VoteMeets_plain {m v w : List Int} {id : Int} (hv : v.length ≤ 17592186044416) (hw : w.length ≤ 17592186044416) : F_law16_VoteMeets (m, id, (v, w, ()), ()) () = some (true, ()) := by
  rw [Fe_law16_VoteMeets]
  unfold tree_law16_VoteMeets
  rw [e_fixed16]
  simp only [Option.bind_some]
  rw [c_f (by rfl)]
  by_cases hm : m.length > 100
  · rw [cd_t (by omega)]
  · rw [cd_f (by omega), e_Change (by omega), e_Most (by omega) hv]
    simp only [Option.bind_some]
    cases h1 : mostS m v with
    | false => rfl
    | true =>
      rw [c_f (by rfl), e_Most (by omega) hw]
      simp only [Option.bind_some]
      have hmt : ∀ (s o : Bool), (s = true ∨ o = true → ∃ n ∈ v, n ∈ w ∧ n ∈ m) → ((L_law16_VoteMeets_9 (m, s, o, 0, ()) ((v, w, ()), ())).bind fun r8 =>
          Sum.elim (fun u9 => some (u9.fst.fst, ()))
          (fun u9 => cond (!u9.fst.fst) (some (!u9.fst.snd.fst, ())) (some (false, ()))) (r8)) = some (true, ()) := fun s o hso => by
        obtain ⟨q, h3, h4⟩ := meets_loop m v w s o hv hw (by omega) v.length 0 (by omega)
        have h3 : L_law16_VoteMeets_9 (m, s, o, 0, ()) ((v, w, ()), ()) = some q := h3
        rw [h3]
        rcases q with q | q
        · have h4 : q = _ := h4
          subst h4
          rfl
        · obtain ⟨h4, h5⟩ := h4
          subst h4
          rw [List.drop_zero] at h5
          cases s with
          | true => obtain ⟨n, g1, g2⟩ := hso (.inl rfl); exact absurd g2 (h5 n g1)
          | false =>
            cases o with
            | true => obtain ⟨n, g1, g2⟩ := hso (.inr rfl); exact absurd g2 (h5 n g1)
            | false => rfl
      cases h2 : (changeS m id).2 with
      | false =>
        rw [c_f rfl]
        exact hmt _ _ fun h => h.elim (fun h => meets (id := id) h1 (.inl h)) fun h => by cases h
      | true =>
        have hcl : (changeS m id).1.length ≤ 200 := by
          have := onceS_length m
          unfold changeS
          split
          · dsimp only; omega
          · dsimp only; omega
        rw [c_t rfl, e_Most (by omega) hw]
        simp only [Option.bind_some]
        exact hmt _ _ fun h => h.elim (fun h => meets (id := id) h1 (.inl h)) fun h => meets h1 (.inr ⟨h2, h⟩)

/-! changed twice -/
theorem changed_twice (m : List Int) (id : Int) : changed (changed m id) id = onceS m := by
  by_cases h : id ∈ m
  · have e : changed m id = without id (onceS m) := by unfold changed; rw [if_pos h]
    rw [e]
    unfold changed
    rw [if_neg (fun h' => (mem_without.1 h').2 rfl)]
    refine onceS_eq (onceS_rising _) fun x => ?_
    rw [mem_onceS, List.mem_cons, mem_without, mem_onceS]
    constructor
    · rintro (rfl | h')
      · exact h
      · exact h'.1
    · intro hx
      by_cases e : x = id
      · exact .inl e
      · exact .inr ⟨hx, e⟩
  · have e : changed m id = onceS (id :: m) := by unfold changed; rw [if_neg h]
    rw [e]
    unfold changed
    rw [if_pos (mem_onceS.2 (List.mem_cons_self ..)), once_rising (onceS_rising _), added h]
theorem VoteBack_plain {m : List Int} {id : Int} : F_law16_VoteBack (m, id, ()) () = some (true, ()) := by
  rw [Fe_law16_VoteBack]
  unfold tree_law16_VoteBack
  rw [e_fixed16]
  simp only [Option.bind_some]
  rw [c_f (by rfl)]
  by_cases hm : m.length > 100
  · rw [cd_t (by omega)]
  · have hl := onceS_length m
    have hcl : (changeS m id).1.length ≤ 200 := by
      unfold changeS
      split
      · dsimp only; omega
      · dsimp only; omega
    rw [cd_f (by omega), e_Change (by omega)]
    simp only [Option.bind_some]
    rw [e_Change hcl]
    simp only [Option.bind_some]
    simp (disch := omega) only [e_ref_Once, Option.bind_some]
    cases h1 : (changeS m id).2 with
    | false =>
      have : (changeS m id).1 = onceS m := by
        unfold changeS at h1 ⊢
        split
        · rfl
        · rename_i h; rw [if_neg h] at h1; cases h1
      simp only [Bool.not_false, cond_true]
      rw [this, e_Nums (by omega)]
      simp
    | true =>
      have hc : (changeS m id).1 = changed m id := by
        unfold changeS at h1 ⊢
        split
        · rename_i h; rw [if_pos h] at h1; cases h1
        · rfl
      simp only [Bool.not_true, cond_false]
      rw [hc]
      have hb : changeS (changed m id) id = if (onceS m).length = 0 ∨ (onceS m).length > 7 then (onceS (changed m id), false) else (onceS m, true) := by
        unfold changeS
        rw [changed_twice]
      by_cases h7 : (onceS m).length = 0 ∨ (onceS m).length > 7
      · rw [hb, if_pos h7]
        simp only [Bool.not_false, cond_true, cond_false]
        rcases h7 with h0 | h7
        · rw [cd_f (by omega), h0]
          rfl
        · rw [cd_t (by omega)]
      · rw [hb, if_neg h7]
        simp only [Bool.not_true, cond_true, cond_false]
        rw [e_Nums (by omega)]
        simp
end Go.Proofs.Ytjhaidbfahobmaa.S2
