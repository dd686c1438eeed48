/- What members a text names, a node's members, and a node that begins, in plain words. -/
import Derived.Test.YtgakbdikappdbaaPraft1
import Derived.Test.YtgakbdikappdbaaPwire
import Derived.Test.YtgakbdikappdbaaPrwire
import Derived.Test.YtgakbdikappdbaaGmemb
set_option linter.unusedVariables false
set_option linter.unusedSimpArgs false
namespace Go.Proofs.Ytgakbdikappdbaa.S2
open Go
def numsL : Nat → ByteArray → List Int → Option (List Int × ByteArray)
  | 0, s, acc => some (acc, s)
  | k + 1, s, acc => match (takS s).2.2 with
    | true => numsL k (takS s).2.1 (acc ++ [(takS s).1])
    | false => none
theorem putL_pos (n : Nat) : 1 ≤ (putL n).length := by
  rw [putL]
  split <;> simp
theorem tak_less {s : ByteArray} (h : (takS s).2.2 = true) : (takS s).2.1.size + 1 ≤ s.size := by
  obtain ⟨n, e, hn, hb⟩ := tak_back h
  have := putL_pos n
  rw [← bs_len, ← bs_len, hb, List.length_append]
  omega
theorem numsL_size : ∀ (k : Nat) (s : ByteArray) (acc : List Int) (p : List Int × ByteArray), numsL k s acc = some p → k ≤ s.size
  | 0, s, acc, p, h => Nat.zero_le _
  | k + 1, s, acc, p, h => by
    unfold numsL at h
    split at h
    · rename_i ht
      have h1 := numsL_size k _ _ p h
      have h2 := tak_less ht
      omega
    · cases h
theorem numsL_len : ∀ (k : Nat) (s : ByteArray) (acc : List Int) (p : List Int × ByteArray), numsL k s acc = some p → p.1.length = acc.length + k
  | 0, s, acc, p, h => by cases h; rfl
  | k + 1, s, acc, p, h => by
    unfold numsL at h
    split at h
    · have h1 := numsL_len k _ _ p h
      rw [h1, List.length_append]
      simp only [List.length_cons, List.length_nil]
      omega
    · cases h
theorem nums_wire (n : Nat) (hn : n ≤ 1000000) : ∀ (d k : Nat) (s : ByteArray) (acc : List Int), k + d = n → acc.length = k →
    (∃ p, numsL d s acc = some p ∧ L_wire_TakeNums_6 (s, (n : Int), (k : Int), ()) (acc, ()) = some (.inr ((p.2, ()), (p.1, ())))) ∨
    (numsL d s acc = none ∧ ∃ a b, L_wire_TakeNums_6 (s, (n : Int), (k : Int), ()) (acc, ()) = some (.inl ((ByteArray.empty, false, a, ()), (b, ()))))
  | 0, k, s, acc, h, ha => by
    rw [Le_wire_TakeNums_6]
    unfold ltree_wire_TakeNums_6
    rw [cd_f (by omega)]
    exact .inl ⟨(acc, s), rfl, rfl⟩
  | d + 1, k, s, acc, h, ha => by
    rw [Le_wire_TakeNums_6]
    unfold ltree_wire_TakeNums_6
    rw [cd_t (by omega), e_TakeUint, Option.bind_some]
    dsimp only
    unfold numsL
    cases ht : (takS s).2.2 with
    | false =>
      rw [c_t (b := !false) rfl]
      exact .inr ⟨rfl, _, _, rfl⟩
    | true =>
      rw [c_f (b := !true) rfl, cd_t (by omega), i64id (by omega) (by omega), List.nil_append]
      have := nums_wire n hn d (k + 1) (takS s).2.1 (acc ++ [(takS s).1]) (by omega) (by simp [ha])
      rw [show ((k : Int) + 1) = ((k + 1 : Nat) : Int) by omega]
      exact this
theorem nums_ref (n : Nat) (hn : n ≤ 1000000) : ∀ (d k : Nat) (s : ByteArray) (acc : List Int), k + d = n → acc.length = k →
    (∃ p, numsL d s acc = some p ∧ L_ref01_TakeNums_6 ((n : Int), s, (k : Int), ()) (acc, ()) = some (.inr ((p.2, ()), (p.1, ())))) ∨
    (numsL d s acc = none ∧ ∃ a b, L_ref01_TakeNums_6 ((n : Int), s, (k : Int), ()) (acc, ()) = some (.inl ((ByteArray.empty, false, a, ()), (b, ()))))
  | 0, k, s, acc, h, ha => by
    rw [Le_ref01_TakeNums_6]
    unfold ltree_ref01_TakeNums_6
    rw [cd_f (by omega)]
    exact .inl ⟨(acc, s), rfl, rfl⟩
  | d + 1, k, s, acc, h, ha => by
    rw [Le_ref01_TakeNums_6]
    unfold ltree_ref01_TakeNums_6
    rw [cd_t (by omega), r_TakeUint, Option.bind_some]
    dsimp only
    unfold numsL
    cases ht : (takS s).2.2 with
    | false =>
      rw [c_t (b := !false) rfl]
      exact .inr ⟨rfl, _, _, rfl⟩
    | true =>
      rw [c_f (b := !true) rfl, cd_t (by omega), u64id (by omega) (by omega), List.nil_append]
      have := nums_ref n hn d (k + 1) (takS s).2.1 (acc ++ [(takS s).1]) (by omega) (by simp [ha])
      rw [show ((k : Int) + 1) = ((k + 1 : Nat) : Int) by omega]
      exact this
def takNums (s : ByteArray) (most : Nat) : List Int × ByteArray × Bool :=
  if (takS s).2.2 = true ∧ (takS s).1 ≤ most then
    match numsL (takS s).1.toNat (takS s).2.1 [] with
    | some p => (p.1, p.2, true)
    | none => ([], ByteArray.empty, false)
  else ([], ByteArray.empty, false)
theorem e_TakeNums {s : ByteArray} {most : Nat} (hm : most ≤ 1000000) (hs : s.size ≤ 140737488355328) : F_wire_TakeNums (s, (most : Int), ()) () = some (((takNums s most).1, (takNums s most).2.1, (takNums s most).2.2, ()), ()) := by
  have hlt := takS_lt s
  have hsz := tak_size (s := s)
  have hmany : F_wire_many (s, (most : Int), ()) () = some ((if (takS s).2.2 = true ∧ (takS s).1 ≤ most ∧ (takS s).1 ≤ (takS s).2.1.size then ((takS s).1, (takS s).2.1, true, ()) else (0, ByteArray.empty, false, ())), ()) := by
    rw [Fe_wire_many]
    unfold tree_wire_many
    rw [e_TakeUint, Option.bind_some]
    dsimp only
    cases ht : (takS s).2.2 with
    | false => rw [c_t (b := !false) rfl, if_neg (by simp)]
    | true =>
      rw [c_f (b := !true) rfl, cd_f (by omega), u64id (n := (most : Int)) (by omega) (by omega), u64id (n := ((takS s).2.1.size : Int)) (by omega) (by omega)]
      by_cases h1 : (takS s).1 ≤ most
      · rw [cd_f (by omega)]
        by_cases h2 : (takS s).1 ≤ (takS s).2.1.size
        · rw [cd_f (by omega), if_pos ⟨rfl, h1, h2⟩, i64id (by omega) (by omega)]
        · rw [cd_t (by omega), if_neg (fun h => h2 h.2.2)]
      · rw [cd_t (by omega), if_neg (fun h => h1 h.2.1)]
  rw [Fe_wire_TakeNums]
  unfold tree_wire_TakeNums
  refine bindS hmany ?_
  dsimp only
  unfold takNums
  by_cases h1 : (takS s).2.2 = true ∧ (takS s).1 ≤ most
  · rw [if_pos h1]
    obtain ⟨n, hn⟩ : ∃ n : Nat, (takS s).1 = (n : Int) := ⟨(takS s).1.toNat, by omega⟩
    have key := nums_wire n (by omega) n 0 (takS s).2.1 [] (by omega) rfl
    by_cases h2 : (takS s).1 ≤ (takS s).2.1.size
    · rw [if_pos ⟨h1.1, h1.2, h2⟩]
      dsimp only
      rw [c_f (b := !true) rfl, hn, Int.toNat_natCast]
      rcases key with ⟨p, hp, hL⟩ | ⟨hp, a, b, hL⟩
      · have hL : L_wire_TakeNums_6 ((takS s).2.1, (n : Int), 0, ()) ([], ()) = _ := hL
        rw [hL, hp]
        rfl
      · have hL : L_wire_TakeNums_6 ((takS s).2.1, (n : Int), 0, ()) ([], ()) = _ := hL
        rw [hL, hp]
        rfl
    · rw [if_neg (fun h => h2 h.2.2)]
      dsimp only
      rw [c_t (b := !false) rfl, hn, Int.toNat_natCast]
      rcases key with ⟨p, hp, hL⟩ | ⟨hp, a, b, hL⟩
      · have := numsL_size _ _ _ _ hp
        omega
      · rw [hp]
  · rw [if_neg h1, if_neg (fun h => h1 ⟨h.1, h.2.1⟩)]
    dsimp only
    rw [c_t (b := !false) rfl]
theorem r_TakeNums {s : ByteArray} {most : Nat} (hm : most ≤ 1000000) : F_ref01_TakeNums (s, (most : Int), ()) () = some (((takNums s most).1, (takNums s most).2.1, (takNums s most).2.2, ()), ()) := by
  have hlt := takS_lt s
  rw [Fe_ref01_TakeNums]
  unfold tree_ref01_TakeNums
  rw [r_TakeUint, Option.bind_some]
  dsimp only
  unfold takNums
  cases ht : (takS s).2.2 with
  | false => rw [c_t (b := !false) rfl, if_neg (by simp)]
  | true =>
    rw [c_f (b := !true) rfl, cd_f (by omega), u64id (n := (most : Int)) (by omega) (by omega)]
    by_cases h1 : (takS s).1 ≤ most
    · rw [cd_f (by omega), if_pos ⟨rfl, h1⟩]
      obtain ⟨n, hn⟩ : ∃ n : Nat, (takS s).1 = (n : Int) := ⟨(takS s).1.toNat, by omega⟩
      have key := nums_ref n (by omega) n 0 (takS s).2.1 [] (by omega) rfl
      rw [hn, Int.toNat_natCast]
      rcases key with ⟨p, hp, hL⟩ | ⟨hp, a, b, hL⟩
      · have hL : L_ref01_TakeNums_6 ((n : Int), (takS s).2.1, 0, ()) ([], ()) = _ := hL
        rw [hL, hp]
        rfl
      · have hL : L_ref01_TakeNums_6 ((n : Int), (takS s).2.1, 0, ()) ([], ()) = _ := hL
        rw [hL, hp]
        rfl
    · rw [cd_t (by omega), if_neg (fun h => h1 h.2)]
def namedS (s : ByteArray) : Option (List Int) := if (takNums s 7).2.2 = true ∧ (takNums s 7).2.1 = ByteArray.empty then some (takNums s 7).1 else none
theorem takNums_len {s : ByteArray} {most : Nat} : (takNums s most).1.length ≤ most := by
  unfold takNums
  split
  · rename_i h
    have h0 := (takS_lt s).1
    split
    · rename_i p hp
      have := numsL_len _ _ _ _ hp
      simp only [List.length_nil] at this
      show p.1.length ≤ most
      omega
    · exact Nat.zero_le _
  · exact Nat.zero_le _
theorem namedS_len {s : ByteArray} {l : List Int} (h : namedS s = some l) : l.length ≤ 7 := by
  unfold namedS at h
  split at h
  · cases h; exact takNums_len
  · cases h
theorem e_named {s : ByteArray} (hs : s.size ≤ 140737488355328) : ∃ l, F_raft_named (s, ()) () = some ((l, (namedS s).isSome, ()), ()) ∧ ∀ k, namedS s = some k → l = k := by
  have hT := e_TakeNums (s := s) (most := 7) (by decide) hs
  have hT : F_wire_TakeNums (s, 7, ()) () = _ := hT
  rw [Fe_raft_named]
  unfold tree_raft_named
  rw [hT, Option.bind_some]
  dsimp only
  unfold namedS
  rw [bytes_beq]
  cases ht : (takNums s 7).2.2 with
  | false =>
    rw [c_f rfl, if_neg (by simp)]
    exact ⟨_, rfl, fun k hk => by cases hk⟩
  | true =>
    rw [c_t rfl]
    by_cases he : (takNums s 7).2.1 = ByteArray.empty
    · rw [if_pos ⟨rfl, he⟩, decide_eq_true he]
      exact ⟨_, rfl, fun k hk => by cases hk; rfl⟩
    · rw [if_neg (fun h => he h.2), decide_eq_false he]
      exact ⟨_, rfl, fun k hk => by cases hk⟩
theorem r_Named {s : ByteArray} : ∃ l, F_ref18_Named (s, ()) () = some ((l, (namedS s).isSome, ()), ()) ∧ ∀ k, namedS s = some k → l = k := by
  have hT := r_TakeNums (s := s) (most := 7) (by decide)
  have hT : F_ref01_TakeNums (s, 7, ()) () = _ := hT
  rw [Fe_ref18_Named]
  unfold tree_ref18_Named
  rw [hT, Option.bind_some]
  dsimp only
  unfold namedS
  rw [bytes_beq]
  cases ht : (takNums s 7).2.2 with
  | false =>
    rw [c_t (b := !false) rfl, if_neg (by simp)]
    exact ⟨_, rfl, fun k hk => by cases hk⟩
  | true =>
    rw [c_f (b := !true) rfl]
    by_cases he : (takNums s 7).2.1 = ByteArray.empty
    · rw [if_pos ⟨rfl, he⟩, decide_eq_true he, c_f (b := !true) rfl]
      exact ⟨_, rfl, fun k hk => by cases hk; rfl⟩
    · rw [if_neg (fun h => he h.2), decide_eq_false he, c_t (b := !false) rfl]
      exact ⟨_, rfl, fun k hk => by cases hk⟩
def lastG (g : Nat → Bool) : Nat → Option Nat
  | 0 => none
  | n + 1 => match g n with
    | true => some n
    | false => lastG g n
def goodE (base i : Int) (l : List E) (k : Nat) : Bool := ((l.getD k (0, 0, ByteArray.empty)).2.1 == 1) && !decide (IntKind.u64.wrap (IntKind.u64.wrap (base + IntKind.u64.wrap (k : Int)) + 1) > i)
def membersS (base i : Int) (l : List E) (first : List Int) : List Int :=
  match lastG (goodE base i l) l.length with
  | some k => (namedS (l.getD k (0, 0, ByteArray.empty)).2.2).getD first
  | none => first
section
variable (x1 : Int) (x2 : List Int) (x3 x4 x5 x6 : Int) (x7 : List E) (x8 : ByteArray) (x9 x10 x11 : Int) (x12 : List Int) (x13 : List Pe) (x14 : Int)
local notation "nd" => ((x1, x2, x3, x4, x5, x6, x7, x8, x9, x10, x11, x12, x13, x14, ()) : Nd)
theorem members_loop (i : Int) (hl : x7.length ≤ 256) (hs : ∀ e ∈ x7, e.2.2.size ≤ 140737488355328) : ∀ (n : Nat), n ≤ x7.length →
    L_raft_Members_2 (i, (n : Int) - 1, ()) (nd, ()) = some (match lastG (goodE x5 i x7) n with
      | none => .inr ((), (nd, ()))
      | some k => match namedS (x7.getD k (0, 0, ByteArray.empty)).2.2 with
        | some l => .inl ((l, ()), (nd, ()))
        | none => .inr ((), (nd, ())))
  | 0, h => by
    rw [Le_raft_Members_2]
    unfold ltree_raft_Members_2
    rw [cd_f (by omega)]
    rfl
  | n + 1, h => by
    rw [Le_raft_Members_2]
    unfold ltree_raft_Members_2
    have ih := members_loop i hl hs n (by omega)
    have e : ((n + 1 : Nat) : Int) - 1 = (n : Int) := by omega
    rw [e, cd_t (by omega), cd_t (by omega), cd_t (by omega), Int.toNat_natCast, i64id (n := (n : Int) - 1) (by omega) (by omega), ih]
    rw [show lastG (goodE x5 i x7) (n + 1) = (match goodE x5 i x7 n with | true => some n | false => lastG (goodE x5 i x7) n) from rfl]
    have hg : goodE x5 i x7 n = (((x7.getD n (0, 0, ByteArray.empty)).2.1 == 1) && !decide (IntKind.u64.wrap (IntKind.u64.wrap (x5 + IntKind.u64.wrap (n : Int)) + 1) > i)) := rfl
    by_cases hk : (x7.getD n (0, 0, ByteArray.empty)).2.1 = 1
    · rw [beq_iff_eq.2 hk, Bool.true_and] at hg
      rw [c_f (by rw [hk]; rfl), hg]
      cases hw : decide (IntKind.u64.wrap (IntKind.u64.wrap (x5 + IntKind.u64.wrap (n : Int)) + 1) > i) with
      | true => rfl
      | false =>
        rw [c_f rfl]
        have hin : x7.getD n (0, 0, ByteArray.empty) ∈ x7 := by
          rw [List.getD_eq_getElem?_getD, List.getElem?_eq_getElem (by omega : n < x7.length)]
          exact List.getElem_mem _
        obtain ⟨l, h1, h2⟩ := e_named (hs _ hin)
        rw [h1, Option.bind_some]
        dsimp only [Bool.not_false]
        cases hn : namedS (x7.getD n (0, 0, ByteArray.empty)).2.2 with
        | none =>
          rw [c_f (by rfl)]
          simp only [Bool.not_false]
          rw [hn]
        | some k =>
          rw [c_t (by rfl), h2 k hn]
          simp only [Bool.not_false]
          rw [hn]
    · rw [beq_false_of_ne hk, Bool.false_and] at hg
      rw [c_t (by simpa using hk), hg]
theorem rmembers_loop (i : Int) (hl : x7.length ≤ 256) : ∀ (d n : Nat), n + d = x7.length →
    L_ref18_Members_4 (i, (lastG (goodE x5 i x7) n).isSome, (match lastG (goodE x5 i x7) n with | some k => (x7.getD k (0, 0, ByteArray.empty)).2.2 | none => ByteArray.empty), (n : Int), ()) (nd, ()) =
      some (((lastG (goodE x5 i x7) x7.length).isSome, (match lastG (goodE x5 i x7) x7.length with | some k => (x7.getD k (0, 0, ByteArray.empty)).2.2 | none => ByteArray.empty), ()), (nd, ()))
  | 0, n, h => by
    rw [Le_ref18_Members_4]
    unfold ltree_ref18_Members_4
    rw [cd_f (by omega), show n = x7.length by omega]
  | d + 1, n, h => by
    rw [Le_ref18_Members_4]
    unfold ltree_ref18_Members_4
    have ih := rmembers_loop i hl d (n + 1) (by omega)
    rw [cd_t (by omega), cd_t (by omega), cd_t (by omega), Int.toNat_natCast, i64id (n := (n : Int) + 1) (by omega) (by omega)]
    rw [show ((n + 1 : Nat) : Int) = (n : Int) + 1 by omega] at ih
    rw [← ih]
    conv => rhs; unfold lastG
    have hg : goodE x5 i x7 n = (((x7.getD n (0, 0, ByteArray.empty)).2.1 == 1) && !decide (IntKind.u64.wrap (IntKind.u64.wrap (x5 + IntKind.u64.wrap (n : Int)) + 1) > i)) := rfl
    by_cases hk : (x7.getD n (0, 0, ByteArray.empty)).2.1 = 1
    · rw [beq_iff_eq.2 hk, Bool.true_and] at hg
      rw [c_t (beq_iff_eq.2 hk)]
      by_cases hw : IntKind.u64.wrap (IntKind.u64.wrap (x5 + IntKind.u64.wrap (n : Int)) + 1) ≤ i
      · rw [cd_t hw, cd_t (by omega), cd_t (by omega)]
        rw [decide_eq_false (by omega)] at hg
        rw [hg]
        rfl
      · rw [cd_f hw]
        rw [decide_eq_true (by omega)] at hg
        rw [hg]
        rfl
    · rw [beq_false_of_ne hk, Bool.false_and] at hg
      rw [c_f (beq_false_of_ne hk), hg]
theorem e_Members (i : Int) (h2 : x2.length ≤ 20) (hl : x7.length ≤ 256) (hs : ∀ e ∈ x7, e.2.2.size ≤ 140737488355328) : F_raft_Members (nd, i, ()) () = some (membersS x5 i x7 x2, ()) := by
  rw [Fe_raft_Members]
  unfold tree_raft_Members
  rw [i64id (n := (x7.length : Int) - 1) (by omega) (by omega), members_loop x1 x2 x3 x4 x5 x6 x7 x8 x9 x10 x11 x12 x13 x14 i hl hs x7.length (Nat.le_refl _), Option.bind_some]
  have hC : F_slices_Clone_uint64 (x2, ()) () = some (x2, ()) := by unfold F_slices_Clone_uint64; exact cd_t (by dsimp only; omega)
  unfold membersS
  cases lastG (goodE x5 i x7) x7.length with
  | none =>
    dsimp only [Sum.elim_inr]
    exact bindS hC rfl
  | some k =>
    dsimp only
    cases namedS (x7.getD k (0, 0, ByteArray.empty)).2.2 with
    | none =>
      dsimp only [Sum.elim_inr]
      exact bindS hC rfl
    | some l => rfl
theorem r_Members (i : Int) (h2 : x2.length ≤ 20) (hl : x7.length ≤ 256) : F_ref18_Members (nd, i, ()) () = some (membersS x5 i x7 x2, ()) := by
  rw [Fe_ref18_Members]
  unfold tree_ref18_Members
  have hL := rmembers_loop x1 x2 x3 x4 x5 x6 x7 x8 x9 x10 x11 x12 x13 x14 i hl x7.length 0 (by omega)
  have hL : L_ref18_Members_4 (i, false, ByteArray.empty, 0, ()) (nd, ()) = _ := hL
  rw [hL, Option.bind_some]
  dsimp only
  obtain ⟨l, h1, h3⟩ := r_Named (s := match lastG (goodE x5 i x7) x7.length with | some k => (x7.getD k (0, 0, ByteArray.empty)).2.2 | none => ByteArray.empty)
  rw [h1, Option.bind_some]
  dsimp only
  unfold membersS
  cases hg : lastG (goodE x5 i x7) x7.length with
  | none =>
    rw [c_t (by rfl), cd_t (by omega)]
    rfl
  | some k =>
    rw [hg] at h3
    dsimp only at h3 ⊢
    rw [c_f (by rfl)]
    cases hn : namedS (x7.getD k (0, 0, ByteArray.empty)).2.2 with
    | none =>
      rw [c_t (by rfl), cd_t (by omega)]
      rfl
    | some m =>
      rw [c_f (by rfl), h3 m hn]
      rfl
theorem membersS_len (i : Int) (h2 : x2.length ≤ 20) : (membersS x5 i x7 x2).length ≤ 20 := by
  unfold membersS
  split
  · rename_i k hk
    cases hn : namedS (x7.getD k (0, 0, ByteArray.empty)).2.2 with
    | none => exact h2
    | some l => have := namedS_len hn; simp only [Option.getD_some]; omega
  · exact h2
end
end Go.Proofs.Ytgakbdikappdbaa.S2
