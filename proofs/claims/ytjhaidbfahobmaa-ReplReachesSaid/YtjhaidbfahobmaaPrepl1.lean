/- What is sent, what is sure: in plain words. -/
import Derived.Test.YtjhaidbfahobmaaPvote3
import Derived.Test.YtjhaidbfahobmaaGrepl
import Derived.Test.YtjhaidbfahobmaaGrrepl
set_option linter.unusedVariables false
set_option linter.unusedSimpArgs false
namespace Go.Proofs.Ytjhaidbfahobmaa.S2
open Go

/-! sent -/
def sendS (b u : Int) (xs : List E) (next most : Int) : Int × Int × List E × Bool :=
  if next ≤ b ∨ next > b + xs.length + 1 then (0, 0, [], false) else (next - 1, (termS b u xs (next - 1)).1, sliceS b xs next most, true)
theorem e_Send {b u next most : Int} {xs : List E} (hb : 0 ≤ b ∧ b ≤ 4611686018427387904) (hx : xs.length ≤ 256) (hn : U next) :
    F_repl_Send ((b, u, xs, ()), next, most, ()) () = some ((((sendS b u xs next most).1, (sendS b u xs next most).2.1, (sendS b u xs next most).2.2.1, (sendS b u xs next most).2.2.2, ())), ()) := by
  rw [Fe_repl_Send]
  unfold tree_repl_Send sendS
  obtain ⟨hn0, hn1⟩ := hn
  by_cases h1 : next ≤ b
  · rw [cd_t h1, if_pos (.inl h1)]
  · rw [cd_f h1, e_rlog_Last hb.1 (by omega) (by omega)]
    simp only [Option.bind_some]
    rw [show IntKind.u64.wrap (b + (xs.length : Int) + 1) = b + xs.length + 1 by rw [u64id] <;> omega]
    by_cases h2 : next > b + xs.length + 1
    · rw [cd_t h2, if_pos (.inr h2)]
    · rw [cd_f h2, if_neg (by omega), show IntKind.u64.wrap (next - 1) = next - 1 by rw [u64id] <;> omega, e_rlog_Term ⟨hb.1, by omega⟩ ⟨by omega, by omega⟩ (by omega), e_Slice hb ⟨hn0, hn1⟩ hx]
      rfl
theorem e_ref_Send {b u next most : Int} {xs : List E} (hb : 0 ≤ b ∧ b ≤ 4611686018427387904) (hx : xs.length ≤ 256) (hn : U next) :
    F_ref17_Send ((b, u, xs, ()), next, most, ()) () = some ((((sendS b u xs next most).1, (sendS b u xs next most).2.1, (sendS b u xs next most).2.2.1, (sendS b u xs next most).2.2.2, ())), ()) := by
  rw [Fe_ref17_Send]
  unfold tree_ref17_Send sendS
  obtain ⟨hn0, hn1⟩ := hn
  by_cases h1 : next ≤ b
  · rw [cd_t h1, if_pos (.inl h1)]
  · rw [cd_f h1, e_ref_Last hb.1 (by omega) (by omega)]
    simp only [Option.bind_some]
    rw [show IntKind.u64.wrap (next - 1) = next - 1 by rw [u64id] <;> omega]
    by_cases h2 : next > b + xs.length + 1
    · rw [cd_t (by omega), if_pos (.inr h2)]
    · rw [cd_f (by omega), if_neg (by omega), e_ref_Term hb.1 (by omega) (by omega), e_ref_Slice hb hx]
      rfl

/-! back -/
def backS (next hint : Int) : Int := if next < 2 then 1 else if hint + 1 < next - 1 then hint + 1 else next - 1
theorem e_Back {next hint : Int} (hn : U next) (hh : U hint) : F_repl_Back (next, hint, ()) () = some (backS next hint, ()) := by
  rw [Fe_repl_Back]
  unfold tree_repl_Back backS
  obtain ⟨hn0, hn1⟩ := hn
  obtain ⟨hh0, hh1⟩ := hh
  have e1 : IntKind.u64.wrap ((if 1 > next then 1 else next) - 1) = (if 1 > next then 1 else next) - 1 := by
    split
    · rfl
    · rw [u64id] <;> omega
  rw [e1]
  by_cases h : hint < 18446744073709551615
  · rw [cd_t h, show IntKind.u64.wrap (hint + 1) = hint + 1 by rw [u64id] <;> omega]
    congr 2
    repeat' split
    all_goals omega
  · rw [cd_f h]
    congr 2
    repeat' split
    all_goals omega
theorem e_ref_Back {next hint : Int} (hn : U next) (hh : U hint) : F_ref17_Back (next, hint, ()) () = some (backS next hint, ()) := by
  rw [Fe_ref17_Back]
  unfold tree_ref17_Back backS
  obtain ⟨hn0, hn1⟩ := hn
  obtain ⟨hh0, hh1⟩ := hh
  by_cases h : next < 2
  · rw [cd_t h, if_pos h]
  · rw [cd_f h, if_neg h, show IntKind.u64.wrap (next - 1) = next - 1 by rw [u64id] <;> omega]
    by_cases h2 : hint < next - 1
    · rw [cd_t h2, show IntKind.u64.wrap (hint + 1) = hint + 1 by rw [u64id] <;> omega, cond_decide]
      split
      · rfl
      · rfl
    · rw [cd_f h2, if_neg (by omega)]

/-! who has it -/
abbrev Pr := Int × Int × Int
def haveS (ps : List Pr) (n : Int) : List Int := (ps.filter fun p => decide (n ≤ p.2.2)).map fun p => p.1
theorem haveS_snoc (ps : List Pr) (p : Pr) (n : Int) : haveS (ps ++ [p]) n = if n ≤ p.2.2 then haveS ps n ++ [p.1] else haveS ps n := by
  unfold haveS
  rw [List.filter_append, List.map_append]
  by_cases h : n ≤ p.2.2 <;> simp [h]
theorem haveS_length (ps : List Pr) (n : Int) : (haveS ps n).length ≤ ps.length := by
  unfold haveS
  rw [List.length_map]
  exact List.length_filter_le _ _
theorem takeP {l : List Pr} {j : Nat} (h : j < l.length) : l.take (j + 1) = l.take j ++ [l.getD j (0, 0, 0)] := by
  rw [List.take_add_one, List.getElem?_eq_getElem h, List.getD_eq_getElem?_getD, List.getElem?_eq_getElem h]
  rfl
theorem have_loop (ps : List Pr) (n : Int) (hl : ps.length ≤ 1000) : ∀ (r i : Nat), i + r = ps.length →
    L_repl_have_3 (n, ps, (ps.length : Int), (i : Int), ()) (haveS (ps.take i) n, ()) = some ((), (haveS ps n, ()))
  | 0, i, hr => by
    rw [Le_repl_have_3]
    unfold ltree_repl_have_3
    rw [cd_f (by omega), List.take_of_length_le (by omega)]
  | r + 1, i, hr => by
    rw [Le_repl_have_3]
    unfold ltree_repl_have_3
    have ih := have_loop ps n hl r (i + 1) (by omega)
    rw [takeP (by omega : i < ps.length), haveS_snoc] at ih
    have hle := haveS_length (ps.take i) n
    rw [List.length_take] at hle
    simp (disch := omega) only [Int.toNat_natCast, cd_t, List.nil_append]
    rw [show IntKind.i64.wrap ((i : Int) + 1) = ((i + 1 : Nat) : Int) by rw [i64id] <;> omega]
    by_cases he : n ≤ (ps.getD i (0, 0, 0)).2.2
    · rw [if_pos he] at ih
      rw [cd_t he]
      exact ih
    · rw [if_neg he] at ih
      rw [cd_f he]
      exact ih
theorem e_have {ps : List Pr} {n : Int} (hl : ps.length ≤ 1000) : F_repl_have (ps, n, ()) () = some (haveS ps n, ()) := by
  rw [Fe_repl_have]
  unfold tree_repl_have
  have h := have_loop ps n hl ps.length 0 (by omega)
  have h : L_repl_have_3 (n, ps, (ps.length : Int), 0, ()) ([], ()) = some ((), (haveS ps n, ())) := h
  rw [h]
  rfl

/-! sure -/
def goodS (b u : Int) (xs : List E) (ms : List Int) (ps : List Pr) (term n : Int) : Bool := decide ((termS b u xs n).1 = term) && mostS ms (haveS ps n)
def comS (good : Int → Bool) (b commit : Int) : Nat → Int
  | 0 => commit
  | j + 1 => if b + (j + 1) ≤ commit then commit else if good (b + (j + 1)) then b + (j + 1) else comS good b commit j
def commitS (b u : Int) (xs : List E) (ms : List Int) (ps : List Pr) (term commit : Int) : Int := comS (goodS b u xs ms ps term) b commit xs.length
theorem com_loop (b u : Int) (xs : List E) (ms : List Int) (ps : List Pr) (term commit : Int) (hb : 0 ≤ b ∧ b ≤ 4611686018427387904) (hx : xs.length ≤ 256) (hm : ms.length ≤ 255) (hp : ps.length ≤ 1000) : ∀ (j : Nat), j ≤ xs.length →
    ∃ o, L_repl_Commit_2 (ms, ps, term, commit, b + (j : Int), ()) ((b, u, xs, ()), ()) = some o ∧ Sum.elim (fun q => q.1.2.1) (fun q => q.1.1) o = comS (goodS b u xs ms ps term) b commit j
  | 0, hj => by
    rw [Le_repl_Commit_2]
    unfold ltree_repl_Commit_2
    by_cases h : b > commit
    · rw [cd_t (by omega), cd_f (by omega)]; exact ⟨_, rfl, rfl⟩
    · rw [cd_f (by omega)]; exact ⟨_, rfl, rfl⟩
  | j + 1, hj => by
    rw [Le_repl_Commit_2]
    unfold ltree_repl_Commit_2 comS
    by_cases h : b + ((j + 1 : Nat) : Int) > commit
    · rw [cd_t h, cd_t (by omega), if_neg (by omega), e_rlog_Term ⟨hb.1, by omega⟩ ⟨by omega, by omega⟩ (by omega)]
      simp only [Option.bind_some]
      rw [show IntKind.u64.wrap (b + ((j + 1 : Nat) : Int) - 1) = b + (j : Int) by rw [u64id] <;> omega]
      have ih := com_loop b u xs ms ps term commit hb hx hm hp j (by omega)
      have ec : b + ((j + 1 : Nat) : Int) = b + ((j : Int) + 1) := by omega
      rw [ec]
      unfold goodS
      by_cases ht : (termS b u xs (b + ((j : Int) + 1))).1 = term
      · rw [c_t (beq_iff_eq.2 ht), e_have hp]
        simp only [Option.bind_some]
        rw [e_Most hm (by have := haveS_length ps (b + ((j : Int) + 1)); omega)]
        simp only [Option.bind_some]
        rw [decide_eq_true ht, Bool.true_and]
        cases mostS ms (haveS ps (b + ((j : Int) + 1))) with
        | true => exact ⟨_, rfl, rfl⟩
        | false => exact ih
      · rw [c_f (beq_false_of_ne ht), decide_eq_false ht, Bool.false_and]
        exact ih
    · rw [cd_f h, if_pos (by omega)]
      exact ⟨_, rfl, rfl⟩
theorem e_Commit {b u term commit : Int} {xs : List E} {ms : List Int} {ps : List Pr} (hb : 0 ≤ b ∧ b ≤ 4611686018427387904) (hx : xs.length ≤ 256) (hm : ms.length ≤ 255) (hp : ps.length ≤ 1000) :
    F_repl_Commit ((b, u, xs, ()), ms, ps, term, commit, ()) () = some (commitS b u xs ms ps term commit, ()) := by
  rw [Fe_repl_Commit]
  unfold tree_repl_Commit
  rw [e_rlog_Last hb.1 (by omega) (by omega)]
  simp only [Option.bind_some]
  obtain ⟨o, h1, h2⟩ := com_loop b u xs ms ps term commit hb hx hm hp xs.length (Nat.le_refl _)
  rw [h1]
  rcases o with o | o
  · have h2 : o.1.2.1 = _ := h2
    simp only [Option.bind_some, Sum.elim_inl, h2]
    rfl
  · have h2 : o.1.1 = _ := h2
    simp only [Option.bind_some, Sum.elim_inr, h2]
    rfl
theorem rhave_loop (ms : List Int) (ps : List Pr) (t best n b u : Int) (xs : List E) (hl : ps.length ≤ 1000) : ∀ (r i : Nat), i + r = ps.length →
    L_ref17_Commit_7 (ms, ps, t, best, n, (i : Int), ()) (haveS (ps.take i) n, (b, u, xs, ()), ()) = some ((ms, ps, t, best, n, ()), (haveS ps n, (b, u, xs, ()), ()))
  | 0, i, hr => by
    rw [Le_ref17_Commit_7]
    unfold ltree_ref17_Commit_7
    rw [cd_f (by omega), List.take_of_length_le (by omega)]
  | r + 1, i, hr => by
    rw [Le_ref17_Commit_7]
    unfold ltree_ref17_Commit_7
    have ih := rhave_loop ms ps t best n b u xs hl r (i + 1) (by omega)
    rw [takeP (by omega : i < ps.length), haveS_snoc] at ih
    have hle := haveS_length (ps.take i) n
    rw [List.length_take] at hle
    simp (disch := omega) only [Int.toNat_natCast, cd_t, List.nil_append]
    rw [show IntKind.i64.wrap ((i : Int) + 1) = ((i + 1 : Nat) : Int) by rw [i64id] <;> omega]
    by_cases he : n ≤ (ps.getD i (0, 0, 0)).2.2
    · rw [if_pos he] at ih
      rw [cd_t he]
      exact ih
    · rw [if_neg he] at ih
      rw [cd_f he]
      exact ih
theorem comS_le (good : Int → Bool) (b commit : Int) : ∀ j : Nat, comS good b commit j = commit ∨ comS good b commit j ≤ b + j ∧ commit < comS good b commit j ∧ b < comS good b commit j ∧ good (comS good b commit j) = true
  | 0 => .inl rfl
  | j + 1 => by
    unfold comS
    split
    · exact .inl rfl
    · split
      · rename_i h; exact .inr ⟨by omega, by omega, by omega, h⟩
      · rcases comS_le good b commit j with h | ⟨h1, h2⟩
        · exact .inl h
        · exact .inr ⟨by omega, h2⟩
theorem comS_step (good : Int → Bool) (b commit : Int) (j : Nat) : comS good b commit (j + 1) = if b + (j + 1) > comS good b commit j ∧ good (b + (j + 1)) = true then b + (j + 1) else comS good b commit j := by
  have h := comS_le good b commit j
  have low : ∀ k : Nat, b + k ≤ commit → comS good b commit k = commit := fun k hk => by
    cases k with
    | zero => rfl
    | succ k => unfold comS; rw [if_pos (by omega)]
  conv => lhs; unfold comS
  by_cases h1 : b + ((j : Int) + 1) ≤ commit
  · rw [if_pos h1, low j (by omega), if_neg (by omega)]
  · rw [if_neg h1]
    have hgt : b + ((j : Int) + 1) > comS good b commit j := by rcases h with h | ⟨h, _⟩ <;> omega
    cases hg : good (b + ((j : Int) + 1)) with
    | true => rw [if_pos rfl, if_pos ⟨hgt, rfl⟩]
    | false => rw [if_neg (by simp), if_neg (by simp)]
theorem rcom_loop (b u : Int) (xs : List E) (ms : List Int) (ps : List Pr) (term commit : Int) (hb : 0 ≤ b ∧ b ≤ 4611686018427387904) (hx : xs.length ≤ 256) (hm : ms.length ≤ 255) (hp : ps.length ≤ 1000) : ∀ (r j : Nat), j + r = xs.length →
    L_ref17_Commit_3 (ms, ps, term, comS (goodS b u xs ms ps term) b commit j, b + (j : Int) + 1, ()) ((b, u, xs, ()), ()) = some ((commitS b u xs ms ps term commit, ()), ())
  | 0, j, hr => by
    rw [Le_ref17_Commit_3]
    unfold ltree_ref17_Commit_3
    rw [e_ref_Last hb.1 (by omega) (by omega)]
    simp only [Option.bind_some]
    rw [cd_f (by omega)]
    unfold commitS
    rw [show j = xs.length by omega]
  | r + 1, j, hr => by
    rw [Le_ref17_Commit_3]
    unfold ltree_ref17_Commit_3
    rw [e_ref_Last hb.1 (by omega) (by omega)]
    simp only [Option.bind_some]
    rw [cd_t (by omega)]
    have hh := rhave_loop ms ps term (comS (goodS b u xs ms ps term) b commit j) (b + (j : Int) + 1) b u xs hp ps.length 0 (by omega)
    have hh : L_ref17_Commit_7 (ms, ps, term, comS (goodS b u xs ms ps term) b commit j, b + (j : Int) + 1, 0, ()) ([], (b, u, xs, ()), ()) = _ := hh
    rw [hh]
    simp only [Option.bind_some]
    rw [e_ref_Entry hb.1 (by omega) (by omega)]
    simp only [Option.bind_some]
    rw [show IntKind.u64.wrap (b + (j : Int) + 1 + 1) = b + ((j + 1 : Nat) : Int) + 1 by rw [u64id] <;> omega]
    have ih := rcom_loop b u xs ms ps term commit hb hx hm hp r (j + 1) (by omega)
    rw [comS_step, show b + ((j : Int) + 1) = b + (j : Int) + 1 by omega] at ih
    have ht : (termS b u xs (b + (j : Int) + 1)).1 = (entS b xs (b + (j : Int) + 1)).1.1 := by unfold termS; rw [if_neg (by omega)]
    by_cases h1 : b + (j : Int) + 1 > comS (goodS b u xs ms ps term) b commit j
    · rw [cd_t h1]
      unfold goodS at ih ⊢
      by_cases h2 : (entS b xs (b + (j : Int) + 1)).1.1 = term
      · rw [c_t (beq_iff_eq.2 h2), e_ref_Most hm (by have := haveS_length ps (b + (j : Int) + 1); omega)]
        simp only [Option.bind_some]
        cases h3 : mostS ms (haveS ps (b + (j : Int) + 1)) with
        | true => rw [if_pos ⟨h1, by rw [ht, decide_eq_true h2, h3]; rfl⟩] at ih; exact ih
        | false => rw [if_neg (by rw [h3, Bool.and_false]; simp)] at ih; exact ih
      · rw [c_f (beq_false_of_ne h2)]
        rw [if_neg (by rw [ht, decide_eq_false h2, Bool.false_and]; simp)] at ih
        exact ih
    · rw [cd_f h1]
      rw [if_neg (fun h => h1 h.1)] at ih
      exact ih
theorem e_ref_Commit {b u term commit : Int} {xs : List E} {ms : List Int} {ps : List Pr} (hb : 0 ≤ b ∧ b ≤ 4611686018427387904) (hx : xs.length ≤ 256) (hm : ms.length ≤ 255) (hp : ps.length ≤ 1000) :
    F_ref17_Commit ((b, u, xs, ()), ms, ps, term, commit, ()) () = some (commitS b u xs ms ps term commit, ()) := by
  rw [Fe_ref17_Commit]
  unfold tree_ref17_Commit
  have h := rcom_loop b u xs ms ps term commit hb hx hm hp xs.length 0 (by omega)
  rw [show IntKind.u64.wrap (b + 1) = b + ((0 : Nat) : Int) + 1 by rw [u64id] <;> omega]
  have h : L_ref17_Commit_3 (ms, ps, term, commit, b + ((0 : Nat) : Int) + 1, ()) ((b, u, xs, ()), ()) = _ := h
  rw [h]
  rfl
end Go.Proofs.Ytjhaidbfahobmaa.S2
