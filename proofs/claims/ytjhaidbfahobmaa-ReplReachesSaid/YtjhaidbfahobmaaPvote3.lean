/- Members changed; what a voter answers. -/
import Derived.Test.YtjhaidbfahobmaaPvote2
set_option linter.unusedVariables false
set_option linter.unusedSimpArgs false
namespace Go.Proofs.Ytjhaidbfahobmaa.S2
open Go

theorem e_is (m id : Int) : F_vote_Change_1 (m, ()) ((id, ()), ()) = some (m == id, ()) := by
  rw [Fe_vote_Change_1]
  unfold tree_vote_Change_1
  rfl
theorem indexF_loop (l : List Int) (id : Int) (hl : l.length ≤ 17592186044416) : ∀ (r i : Nat), i + r = l.length → id ∉ l.take i →
    ∃ o, L_s_IndexFunc_u_2 (l, (), (l.length : Int), (i : Int), ()) ((id, ()), ()) = some o ∧
      match o with
      | .inl u => ∃ k : Nat, u = (((k : Int), ()), ((id, ()), ())) ∧ k < l.length ∧ l.getD k 0 = id ∧ id ∉ l.take k
      | .inr u => u = ((), ((id, ()), ())) ∧ id ∉ l
  | 0, i, hr, hn => by
    rw [Le_s_IndexFunc_u_2]
    unfold ltree_s_IndexFunc_u_2
    rw [cd_f (by omega)]
    rw [List.take_of_length_le (by omega)] at hn
    exact ⟨_, rfl, rfl, hn⟩
  | r + 1, i, hr, hn => by
    rw [Le_s_IndexFunc_u_2]
    unfold ltree_s_IndexFunc_u_2
    simp (disch := omega) only [Int.toNat_natCast, cd_t, e_is, Option.bind_some]
    by_cases he : l.getD i 0 = id
    · rw [c_t (beq_iff_eq.2 he)]
      exact ⟨_, rfl, i, rfl, by omega, he, hn⟩
    · rw [c_f (beq_false_of_ne he), show IntKind.i64.wrap ((i : Int) + 1) = ((i + 1 : Nat) : Int) by rw [i64id] <;> omega]
      refine indexF_loop l id hl r (i + 1) (by omega) ?_
      rw [take_one (by omega : i < l.length), List.mem_append, List.mem_singleton]
      exact fun h => h.elim hn fun h => he h.symm
theorem e_IndexFunc {l : List Int} {id : Int} (hl : l.length ≤ 17592186044416) :
    (F_s_IndexFunc_u (l, (), ()) ((id, ()), ()) = some (-1, ()) ∧ id ∉ l) ∨ ∃ k : Nat, F_s_IndexFunc_u (l, (), ()) ((id, ()), ()) = some ((k : Int), ()) ∧ k < l.length ∧ l.getD k 0 = id ∧ id ∉ l.take k := by
  rw [Fe_s_IndexFunc_u]
  unfold tree_s_IndexFunc_u
  obtain ⟨o, h1, h2⟩ := indexF_loop l id hl l.length 0 (by omega) (by simp)
  have h1 : L_s_IndexFunc_u_2 (l, (), (l.length : Int), 0, ()) ((id, ()), ()) = some o := h1
  rw [h1]
  rcases o with o | o
  · obtain ⟨k, rfl, h2⟩ := h2
    exact .inr ⟨k, rfl, h2⟩
  · obtain ⟨rfl, h2⟩ := h2
    exact .inl ⟨rfl, h2⟩

def without (id : Int) (l : List Int) : List Int := l.filter fun x => decide (x ≠ id)
theorem without_snoc (id x : Int) (l : List Int) : without id (l ++ [x]) = if x = id then without id l else without id l ++ [x] := by
  unfold without
  rw [List.filter_append]
  by_cases h : x = id <;> simp [h]
theorem without_not {id : Int} {l : List Int} (h : id ∉ l) : without id l = l := by
  unfold without
  rw [List.filter_eq_self]
  intro x hx
  exact decide_eq_true fun e => h (e ▸ hx)
theorem mem_without {id x : Int} {l : List Int} : x ∈ without id l ↔ x ∈ l ∧ x ≠ id := by unfold without; rw [List.mem_filter, decide_eq_true_eq]
theorem without_length (id : Int) (l : List Int) : (without id l).length ≤ l.length := List.length_filter_le _ _
theorem without_lt {id : Int} : ∀ {l : List Int}, id ∈ l → (without id l).length < l.length
  | [], h => by cases h
  | x :: l, h => by
    have hle := without_length id l
    unfold without at hle ⊢
    rw [List.filter_cons]
    by_cases hx : x = id
    · simp only [hx, ne_eq, not_true_eq_false, decide_false, Bool.false_eq_true, if_false, List.length_cons]; simp only [ne_eq] at hle; omega
    · rcases List.mem_cons.1 h with h | h
      · exact absurd h.symm hx
      · have := without_lt h
        unfold without at this
        simp only [hx, ne_eq, not_false_eq_true, decide_true, if_true, List.length_cons]
        simp only [ne_eq] at this
        omega
theorem delete_loop {orig : List Int} (id : Int) (hn : orig.length ≤ 17592186044416) : ∀ (r j i : Nat) (cur : List Int), j + r = orig.length → i ≤ j → cur.length = orig.length → cur.drop j = orig.drop j → cur.take i = without id (orig.take j) →
      ∃ (i' : Nat) (cur' : List Int), L_s_DeleteFunc_u_5 ((), (i : Int), (j : Int), ()) (cur, (id, ()), ()) = some (((i' : Int), ()), (cur', (id, ()), ())) ∧ cur'.length = orig.length ∧ i' ≤ orig.length ∧ cur'.take i' = without id orig
  | 0, j, i, cur, hr, hi, hc, hd, ht => by
    rw [Le_s_DeleteFunc_u_5]
    unfold ltree_s_DeleteFunc_u_5
    rw [cd_f (by omega)]
    rw [List.take_of_length_le (l := orig) (by omega)] at ht
    exact ⟨i, cur, rfl, hc, by omega, ht⟩
  | r + 1, j, i, cur, hr, hi, hc, hd, ht => by
    rw [Le_s_DeleteFunc_u_5]
    unfold ltree_s_DeleteFunc_u_5
    have e2 : IntKind.i64.wrap ((j : Int) + 1) = ((j + 1 : Nat) : Int) := by rw [i64id] <;> omega
    have e3 : IntKind.i64.wrap ((i : Int) + 1) = ((i + 1 : Nat) : Int) := by rw [i64id] <;> omega
    simp (disch := omega) only [e2, e3, Int.toNat_natCast, cd_t, e_is, Option.bind_some, Nat.zero_add]
    have g1 : cur.getD j 0 = orig.getD j 0 := getD_drop hd (Nat.le_refl _)
    have hdrop : ∀ c : List Int, c.drop j = orig.drop j → c.drop (j + 1) = orig.drop (j + 1) := fun c h => by
      have e : ∀ m : List Int, m.drop (j + 1) = (m.drop j).drop 1 := fun m => by rw [List.drop_drop]
      rw [e c, e orig, h]
    rw [g1]
    have htk : orig.take (j + 1) = orig.take j ++ [orig.getD j 0] := take_one (by omega)
    by_cases he : orig.getD j 0 = id
    · rw [c_f (by rw [beq_iff_eq.2 he]; rfl)]
      refine delete_loop id hn r (j + 1) i cur (by omega) (by omega) hc (hdrop cur hd) ?_
      rw [htk, without_snoc, if_pos he]
      exact ht
    · rw [c_t (by rw [beq_false_of_ne he]; rfl)]
      refine delete_loop id hn r (j + 1) (i + 1) _ (by omega) (by omega) (by rw [List.length_set]; exact hc) ?_ ?_
      · rw [List.drop_set_of_lt (by omega)]
        exact hdrop cur hd
      · rw [htk, without_snoc, if_neg he, take_one (by rw [List.length_set]; omega), List.take_set_of_le (Nat.le_refl _), ht]
        congr 2
        rw [List.getD_eq_getElem?_getD, List.getElem?_set_self (by omega)]
        rfl
theorem e_DeleteFunc {l : List Int} {id : Int} (hl : l.length ≤ 17592186044416) : F_s_DeleteFunc_u ((), ()) (l, ((id, ()), ())) = some ((), ((), ((id, ()), (without id l, ())))) := by
  rw [Fe_s_DeleteFunc_u]
  unfold tree_s_DeleteFunc_u
  rcases e_IndexFunc (l := l) (id := id) hl with ⟨h1, h2⟩ | ⟨k, h1, h2, h3, h4⟩
  · rw [h1]
    simp only [Option.bind_some]
    rw [c_t (by rfl), without_not h2]
  · rw [h1]
    simp only [Option.bind_some]
    rw [c_f (beq_false_of_ne (by omega)), show IntKind.i64.wrap ((k : Int) + 1) = ((k + 1 : Nat) : Int) by rw [i64id] <;> omega]
    obtain ⟨i', cur', hL, hc, hi', ht⟩ := delete_loop (orig := l) id hl (l.length - (k + 1)) (k + 1) k l (by omega) (by omega) rfl rfl (by rw [take_one h2, without_snoc, if_pos h3, without_not h4])
    rw [hL]
    have hfl : (fillL i' (cur'.length - i') 0 cur').length = cur'.length := by
      unfold fillL
      simp
      omega
    have hft : (fillL i' (cur'.length - i') 0 cur').take i' = cur'.take i' := by
      unfold fillL
      rw [List.append_assoc, List.take_append_of_le_length (by simp; omega), List.take_take, Nat.min_self]
    simp (disch := omega) only [Option.bind_some, Int.toNat_natCast, cd_t, Nat.zero_add, hfl, Nat.sub_zero, List.drop_zero, hft, ht]

/-! Change -/
def changed (m : List Int) (id : Int) : List Int := if id ∈ m then without id (onceS m) else onceS (id :: m)
def changeS (m : List Int) (id : Int) : List Int × Bool := if (changed m id).length = 0 ∨ (changed m id).length > 7 then (onceS m, false) else (changed m id, true)
theorem rising_filter {l : List Int} (h : l.Pairwise (fun x y => x < y)) (id : Int) : (without id l).Pairwise (fun x y => x < y) := h.filter _
theorem changed_add {m : List Int} {id : Int} (h : id ∉ m) : onceS (onceS m ++ [id]) = onceS (id :: m) :=
  onceS_eq (onceS_rising _) fun x => by rw [mem_onceS, List.mem_append, mem_onceS, List.mem_singleton, List.mem_cons]; exact Or.comm
theorem e_Change {m : List Int} {id : Int} (hm : m.length ≤ 200) : F_vote_Change (m, id, ()) () = some (((changeS m id).1, (changeS m id).2, ()), ()) := by
  rw [Fe_vote_Change]
  unfold tree_vote_Change
  have hl := onceS_length m
  rw [e_once (by omega)]
  simp only [Option.bind_some]
  have hcl : F_s_Clone_u (onceS m, ()) () = some ((), (onceS m, ())) := by
    unfold F_s_Clone_u
    rw [cd_t (by dsimp only; omega)]
  rw [hcl]
  simp only [Option.bind_some]
  rw [e_DeleteFunc (by omega)]
  simp only [Option.bind_some]
  unfold changeS changed
  by_cases h : id ∈ m
  · have hlt := without_lt (mem_onceS.2 h)
    rw [c_f (beq_false_of_ne (by omega))]
    simp only [h, if_true]
    by_cases h0 : (without id (onceS m)).length = 0
    · rw [c_t (beq_iff_eq.2 (by omega)), if_pos (.inl h0)]
    · rw [c_f (beq_false_of_ne (by omega))]
      by_cases h7 : (without id (onceS m)).length > 7
      · rw [cd_t (by omega), if_pos (.inr h7)]
      · rw [cd_f (by omega), if_neg (by omega)]
  · have hid : id ∉ onceS m := fun h' => h (mem_onceS.1 h')
    rw [without_not hid, c_t (beq_iff_eq.2 rfl), cd_t (by omega), List.nil_append, e_once (by rw [List.length_append]; simp only [List.length_cons, List.length_nil]; omega), changed_add h]
    simp only [Option.bind_some, h, if_false]
    by_cases h0 : (onceS (id :: m)).length = 0
    · rw [c_t (beq_iff_eq.2 (by omega)), if_pos (.inl h0)]
    · rw [c_f (beq_false_of_ne (by omega))]
      by_cases h7 : (onceS (id :: m)).length > 7
      · rw [cd_t (by omega), if_pos (.inr h7)]
      · rw [cd_f (by omega), if_neg (by omega)]
theorem rchange_loop (l : List Int) (id : Int) (hl : l.length ≤ 1000) : ∀ (r i : Nat), i + r = l.length →
    L_ref16_Change_4 (id, l, (i : Int), ()) (without id (l.take i), ()) = some ((id, l, ()), (without id l, ()))
  | 0, i, hr => by
    rw [Le_ref16_Change_4]
    unfold ltree_ref16_Change_4
    rw [cd_f (by omega), List.take_of_length_le (by omega)]
  | r + 1, i, hr => by
    rw [Le_ref16_Change_4]
    unfold ltree_ref16_Change_4
    have ih := rchange_loop l id hl r (i + 1) (by omega)
    rw [take_one (by omega : i < l.length), without_snoc] at ih
    have hle := without_length id (l.take i)
    rw [List.length_take] at hle
    simp (disch := omega) only [Int.toNat_natCast, cd_t, List.nil_append]
    rw [show IntKind.i64.wrap ((i : Int) + 1) = ((i + 1 : Nat) : Int) by rw [i64id] <;> omega]
    by_cases he : l.getD i 0 = id
    · rw [if_pos he] at ih
      rw [c_f (bne_eq_false_iff_eq.2 he)]
      exact ih
    · rw [if_neg he] at ih
      rw [c_t (bne_iff_ne.2 he)]
      exact ih
theorem e_ref_Change {m : List Int} {id : Int} (hm : m.length ≤ 200) : F_ref16_Change (m, id, ()) () = some (((changeS m id).1, (changeS m id).2, ()), ()) := by
  rw [Fe_ref16_Change]
  unfold tree_ref16_Change
  have hl := onceS_length m
  rw [e_ref_Once (by omega)]
  simp only [Option.bind_some]
  have hL := rchange_loop (onceS m) id (by omega) (onceS m).length 0 (by omega)
  have hL : L_ref16_Change_4 (id, onceS m, 0, ()) ([], ()) = some ((id, onceS m, ()), (without id (onceS m), ())) := hL
  rw [hL]
  simp only [Option.bind_some]
  rw [e_Has (by omega)]
  simp only [Option.bind_some]
  have hw := without_length id (onceS m)
  unfold changeS changed
  by_cases h : id ∈ m
  · rw [decide_eq_true (mem_onceS.2 h)]
    simp only [h, if_true, Bool.not_true, cond_false]
    by_cases h0 : (without id (onceS m)).length = 0
    · rw [cd_t (by omega), if_pos (.inl h0)]
    · rw [cd_f (by omega)]
      by_cases h7 : (without id (onceS m)).length > 7
      · rw [cd_t (by omega), if_pos (.inr h7)]
      · rw [cd_f (by omega), if_neg (by omega)]
  · have hid : id ∉ onceS m := fun h' => h (mem_onceS.1 h')
    rw [decide_eq_false hid]
    simp only [Bool.not_false, cond_true]
    rw [without_not hid, cd_t (by omega), List.nil_append, e_ref_Once (by rw [List.length_append]; simp only [List.length_cons, List.length_nil]; omega), changed_add h]
    simp only [Option.bind_some, h, if_false]
    by_cases h0 : (onceS (id :: m)).length = 0
    · rw [cd_t (by omega), if_pos (.inl h0)]
    · rw [cd_f (by omega)]
      by_cases h7 : (onceS (id :: m)).length > 7
      · rw [cd_t (by omega), if_pos (.inr h7)]
      · rw [cd_f (by omega), if_neg (by omega)]

/-! voters -/
def seenS (t v term : Int) : Int × Int := if t ≥ term then (t, v) else (term, 0)
theorem e_Seen (t v term : Int) : F_vote_Seen ((t, v, ()), term, ()) () = some (((seenS t v term).1, (seenS t v term).2, ()), ()) := by
  rw [Fe_vote_Seen]
  unfold tree_vote_Seen seenS
  rw [cond_decide]
  split <;> rfl
theorem e_ref_Seen (t v term : Int) : F_ref16_Seen ((t, v, ()), term, ()) () = some (((seenS t v term).1, (seenS t v term).2, ()), ()) := by
  rw [Fe_ref16_Seen]
  unfold tree_ref16_Seen seenS
  by_cases h : t ≥ term
  · rw [cd_f (by omega), if_pos h]
  · rw [cd_t (by omega), if_neg h]
/-- What a voter answers: its term, whom it votes for (one more), whether it does. -/
def askS (t v b u : Int) (xs : List E) (term from_ last lastT : Int) : (Int × Int) × Bool :=
  if term < t ∨ from_ = 18446744073709551615 then ((t, v), false)
  else if ((seenS t v term).2 = 0 ∨ (seenS t v term).2 = from_ + 1) ∧ newerS b u xs last lastT = true then (((seenS t v term).1, from_ + 1), true)
  else (seenS t v term, false)
theorem e_Ask {t v b u term from_ last lastT : Int} {xs : List E} (hb : 0 ≤ b ∧ b ≤ 4611686018427387904) (hx : xs.length ≤ 140737488355328) (hf : U from_) :
    F_vote_Ask ((t, v, ()), (b, u, xs, ()), term, from_, last, lastT, ()) () = some (((((askS t v b u xs term from_ last lastT).1.1, (askS t v b u xs term from_ last lastT).1.2, ()), (askS t v b u xs term from_ last lastT).2, ())), ()) := by
  rw [Fe_vote_Ask]
  unfold tree_vote_Ask askS
  obtain ⟨hf0, hf1⟩ := hf
  by_cases h1 : term < t
  · rw [cd_t h1, if_pos (.inl h1)]
  · rw [cd_f h1]
    by_cases h2 : from_ = 18446744073709551615
    · rw [c_t (beq_iff_eq.2 h2), if_pos (.inr h2)]
    · have ef : IntKind.u64.wrap (from_ + 1) = from_ + 1 := u64id (by omega) (by omega)
      rw [c_f (beq_false_of_ne h2), e_Seen, if_neg (by omega)]
      simp only [Option.bind_some]
      rw [ef, e_Newer hb hx]
      simp only [Option.bind_some]
      by_cases h3 : (seenS t v term).2 = 0
      · rw [c_f (bne_eq_false_iff_eq.2 h3)]
        cases h4 : newerS b u xs last lastT with
        | true => rw [if_pos ⟨.inl h3, rfl⟩]; rfl
        | false => rw [if_neg (by simp)]; rfl
      · rw [c_t (bne_iff_ne.2 h3)]
        by_cases h5 : (seenS t v term).2 = from_ + 1
        · rw [c_f (bne_eq_false_iff_eq.2 h5)]
          cases h4 : newerS b u xs last lastT with
          | true => rw [if_pos ⟨.inr h5, rfl⟩]; rfl
          | false => rw [if_neg (by simp)]; rfl
        · rw [c_t (bne_iff_ne.2 h5), if_neg (fun h => h.1.elim h3 h5)]
theorem e_ref_Ask {t v b u term from_ last lastT : Int} {xs : List E} (hb : 0 ≤ b ∧ b ≤ 4611686018427387904) (hx : xs.length ≤ 140737488355328) (hf : U from_) :
    F_ref16_Ask ((t, v, ()), (b, u, xs, ()), term, from_, last, lastT, ()) () = some (((((askS t v b u xs term from_ last lastT).1.1, (askS t v b u xs term from_ last lastT).1.2, ()), (askS t v b u xs term from_ last lastT).2, ())), ()) := by
  rw [Fe_ref16_Ask]
  unfold tree_ref16_Ask askS
  obtain ⟨hf0, hf1⟩ := hf
  by_cases h1 : term < t
  · rw [cd_t h1, if_pos (.inl h1)]
  · rw [cd_f h1]
    by_cases h2 : from_ = 18446744073709551615
    · rw [c_t (beq_iff_eq.2 (by subst h2; rfl)), if_pos (.inr h2)]
    · have ef : IntKind.u64.wrap (from_ + 1) = from_ + 1 := u64id (by omega) (by omega)
      rw [ef, c_f (beq_false_of_ne (by omega)), e_ref_Seen, if_neg (by omega)]
      simp only [Option.bind_some]
      rw [e_ref_Newer hb hx]
      simp only [Option.bind_some]
      by_cases h3 : (seenS t v term).2 = 0
      · rw [c_t (beq_iff_eq.2 h3)]
        cases h4 : newerS b u xs last lastT with
        | true => rw [if_pos ⟨.inl h3, rfl⟩]; rfl
        | false => rw [if_neg (by simp)]; rfl
      · rw [c_f (beq_false_of_ne h3)]
        by_cases h5 : (seenS t v term).2 = from_ + 1
        · rw [c_t (beq_iff_eq.2 h5)]
          cases h4 : newerS b u xs last lastT with
          | true => rw [if_pos ⟨.inr h5, rfl⟩]; rfl
          | false => rw [if_neg (by simp)]; rfl
        · rw [c_f (beq_false_of_ne h5), if_neg (fun h => h.1.elim h3 h5)]
end Go.Proofs.Ytjhaidbfahobmaa.S2
