/- The laws of what is sent, in plain words: three of four. -/
import Derived.Test.YtjhaidbfahobmaaPrepl1
import Derived.Test.YtjhaidbfahobmaaGlaw17
import Derived.Test.YtjhaidbfahobmaaGLReplBack
import Derived.Test.YtjhaidbfahobmaaGLReplTells
import Derived.Test.YtjhaidbfahobmaaGLReplSure
set_option linter.unusedVariables false
set_option linter.unusedSimpArgs false
namespace Go.Proofs.Ytjhaidbfahobmaa.S2
open Go

def termE (t : Int) : E := (t, 0, ByteArray.empty)
theorem terms_loop (z1 z2 z3 z4 : Int) (l : List Int) (hl : l.length ≤ 1000000) : ∀ (d k : Nat) (acc : List E), k + d = l.length → acc.length = k →
    L_law17_terms_3 (l, (k : Int), ()) (acc, (z1, z2, ()), (z3, z4, ()), ()) = some ((), (acc ++ (l.drop k).map termE, ((z1, z2, ()), ((z3, z4, ()), ()))))
  | 0, k, acc, h, ha => by
    rw [Le_law17_terms_3]
    unfold ltree_law17_terms_3
    rw [cd_f (by omega), List.drop_of_length_le (by omega), List.map_nil, List.append_nil]
  | d + 1, k, acc, h, ha => by
    have hk : k < l.length := by omega
    rw [Le_law17_terms_3]
    unfold ltree_law17_terms_3
    rw [cd_t (by omega), cd_t (by omega), cd_t (by omega), cd_t (by omega), show IntKind.i64.wrap ((k : Int) + 1) = ((k + 1 : Nat) : Int) by rw [i64id] <;> omega,
      terms_loop z1 z2 z3 z4 l hl d (k + 1) _ (by omega) (by simp [ha]), List.drop_eq_getElem_cons hk, Int.toNat_natCast]
    have e : l.getD k 0 = l[k] := by simp [List.getD, hk]
    rw [e, List.map_cons, List.nil_append, List.append_assoc]
    rfl
theorem e_terms (l : List Int) (hl : l.length ≤ 1000000) : F_law17_terms (l, ()) () = some ((0, 0, l.map termE, ()), ()) := by
  rw [Fe_law17_terms]
  unfold tree_law17_terms
  have := terms_loop 0 0 0 0 l hl l.length 0 [] (by omega) rfl
  rw [show ((0 : Nat) : Int) = 0 from rfl] at this
  rw [this]
  rfl
theorem e_fixed17 : F_law17_fixed () () = some (true, ()) := by
  rw [Fe_law17_fixed]
  unfold tree_law17_fixed
  rw [e_terms _ (by decide)]
  simp only [Option.bind_some, List.nil_append, List.cons_append]
  have o3 : onceS [1, 2, 3] = [1, 2, 3] := (onceS_eq (by decide) (fun x => Iff.rfl)).symm
  have hg : ∀ (xs : List E) (t : Int), goodS 0 0 xs [1, 2, 3] [(1, 0, 4), (2, 0, 3), (3, 0, 0)] t = fun n => decide ((termS 0 0 xs n).1 = t) && decide (3 < 2 * cnt [1, 2, 3] (haveS [(1, 0, 4), (2, 0, 3), (3, 0, 0)] n)) := by
    intro xs t
    funext n
    unfold goodS mostS
    rw [o3]
    rfl
  have c2 : commitS 0 0 (List.map termE [1, 1, 2, 2]) [1, 2, 3] [(1, 0, 4), (2, 0, 3), (3, 0, 0)] 2 0 = 3 := by unfold commitS; rw [hg]; rfl
  have c1 : commitS 0 0 (List.map termE [1, 1, 2, 2]) [1, 2, 3] [(1, 0, 4), (2, 0, 3), (3, 0, 0)] 1 0 = 2 := by unfold commitS; rw [hg]; rfl
  have c3 : commitS 0 0 (List.map termE [1, 1, 2, 2]) [1, 2, 3] [(1, 0, 4), (2, 0, 3), (3, 0, 0)] 3 0 = 0 := by unfold commitS; rw [hg]; rfl
  have sd : sendS 0 0 (List.map termE [1, 1, 2, 2]) 3 1 = (2, 1, [termE 2], true) := by rfl
  rw [e_Send ⟨by omega, by omega⟩ (by decide) (by constructor <;> omega), sd]
  simp only [Option.bind_some]
  rw [e_Commit ⟨by omega, by omega⟩ (by decide) (by decide) (by decide), c2]
  simp only [Option.bind_some]
  rw [c_t (by rfl), e_Commit ⟨by omega, by omega⟩ (by decide) (by decide) (by decide), c1]
  simp only [Option.bind_some]
  rw [c_t (by rfl), e_Commit ⟨by omega, by omega⟩ (by decide) (by decide) (by decide), c3]
  simp only [Option.bind_some]
  rw [c_t (by rfl), e_Back (by constructor <;> omega) (by constructor <;> omega)]
  rfl
theorem ReplBack_plain {next hint : Int} (hn : U next) (hh : U hint) : F_law17_ReplBack (next, hint, ()) () = some (true, ()) := by
  rw [Fe_law17_ReplBack]
  unfold tree_law17_ReplBack
  rw [e_Back hn hh, e_fixed17]
  simp only [Option.bind_some]
  obtain ⟨hn0, hn1⟩ := hn
  obtain ⟨hh0, hh1⟩ := hh
  rw [c_f (by rfl)]
  by_cases h2 : next < 2
  · have e : backS next hint = 1 := by unfold backS; rw [if_pos h2]
    rw [e, cd_f (by omega), cd_f (by omega), cd_t h2]
    rfl
  · have ew : IntKind.u64.wrap (next - 1) = next - 1 := by rw [u64id] <;> omega
    have e : backS next hint = if hint + 1 < next - 1 then hint + 1 else next - 1 := by unfold backS; rw [if_neg h2]
    rw [e, ew]
    by_cases h3 : hint + 1 < next - 1
    · have ew2 : IntKind.u64.wrap (hint + 1) = hint + 1 := by rw [u64id] <;> omega
      rw [if_pos h3, ew2, cd_f (by omega), cd_t (by omega), cd_f (by omega), cd_f h2, cd_t (by omega), c_f (beq_false_of_ne (by omega)), c_t (beq_self_eq_true _)]
    · rw [if_neg h3, cd_f (by omega), cd_t (by omega), cd_f (by omega), cd_f h2, cd_t (by omega), c_t (beq_self_eq_true _)]
theorem sendS_len (b u : Int) (xs : List E) (next most : Int) (hx : xs.length ≤ 256) : (sendS b u xs next most).2.2.1.length ≤ 256 := by
  unfold sendS
  split
  · exact Nat.zero_le _
  · unfold sliceS
    dsimp only
    split
    · exact Nat.zero_le _
    · rw [List.length_take, List.length_drop]; omega
theorem ReplTells_plain {b u t c next most : Int} {xs : List E} {ms : List Int} {ps : List Pr} (hb : U b) (hc : U c) (hn : U next) :
    F_law17_ReplTells ((b, u, xs, ()), (ms, ps, t, c, ()), (next, most, ()), ()) () = some (true, ()) := by
  rw [Fe_law17_ReplTells]
  unfold tree_law17_ReplTells
  rw [e_fixed17, e_May]
  simp only [Option.bind_some]
  rw [c_f (by rfl)]
  by_cases hm : b ≤ 4611686018427387904 ∧ xs.length ≤ 256
  rotate_left
  · rw [decide_eq_false hm, c_t (by rfl)]
  rw [decide_eq_true hm, c_f (by rfl)]
  by_cases h1 : ms.length > 20
  · rw [cd_t (by omega)]
  rw [cd_f (by omega)]
  by_cases h2 : ps.length > 20
  · rw [cd_t (by omega)]
  have hb' : 0 ≤ b ∧ b ≤ 4611686018427387904 := ⟨hb.1, hm.1⟩
  have hl := sendS_len b u xs next most hm.2
  rw [cd_f (by omega), e_Send hb' hm.2 hn, e_ref_Send hb' hm.2 hn]
  simp only [Option.bind_some]
  rw [c_t (beq_self_eq_true _), c_t (beq_self_eq_true _), e_Entries (by omega) (by omega)]
  simp only [Option.bind_some]
  rw [cd_t trivial, c_t (beq_self_eq_true _), e_Commit hb' hm.2 (by omega) (by omega), e_ref_Commit hb' hm.2 (by omega) (by omega)]
  simp only [Option.bind_some]
  rw [c_t (beq_self_eq_true _), e_Back hn hc, e_ref_Back hn hc]
  simp

/-! what is sure stays sure -/
theorem comS_none (good : Int → Bool) (b c : Int) : ∀ (j m : Nat), 1 ≤ m → m ≤ j → b + m > comS good b c j → good (b + m) = false
  | 0, m, h1, h2, _ => by omega
  | j + 1, m, h1, h2, h3 => by
    unfold comS at h3
    split at h3
    · omega
    · split at h3
      · omega
      · rename_i hg
        by_cases e : m = j + 1
        · subst e
          rw [show b + ((j + 1 : Nat) : Int) = b + ((j : Int) + 1) by omega]
          simpa using hg
        · exact comS_none good b c j m h1 (by omega) h3
theorem comS_still (good : Int → Bool) (b c : Int) : ∀ j : Nat, (∀ m : Nat, 1 ≤ m → m ≤ j → b + m > c → good (b + m) = false) → comS good b c j = c
  | 0, _ => rfl
  | j + 1, h => by
    unfold comS
    by_cases h1 : b + ((j : Int) + 1) ≤ c
    · rw [if_pos h1]
    · have := h (j + 1) (by omega) (Nat.le_refl _) (by omega)
      rw [show b + ((j + 1 : Nat) : Int) = b + ((j : Int) + 1) by omega] at this
      rw [if_neg h1, this, if_neg (by simp)]
      exact comS_still good b c j fun m h1 h2 h3 => h m h1 (by omega) h3
theorem comS_mono {good good' : Int → Bool} (hg : ∀ m, good m = true → good' m = true) (b c : Int) : ∀ j : Nat, comS good b c j ≤ comS good' b c j
  | 0 => Int.le_refl _
  | j + 1 => by
    have ih := comS_mono hg b c j
    unfold comS
    by_cases h1 : b + ((j : Int) + 1) ≤ c
    · rw [if_pos h1, if_pos h1]; exact Int.le_refl _
    · rw [if_neg h1, if_neg h1]
      cases hgd : good (b + ((j : Int) + 1)) with
      | true => rw [hg _ hgd]; exact Int.le_refl _
      | false =>
        rw [if_neg (by simp)]
        split
        · rcases comS_le good b c j with h | ⟨h, _⟩ <;> omega
        · exact ih
theorem filter_le {p q : Int → Bool} (h : ∀ x, p x = true → q x = true) : ∀ l : List Int, (l.filter p).length ≤ (l.filter q).length
  | [] => Nat.le_refl _
  | z :: l => by
    have := filter_le h l
    rw [List.filter_cons, List.filter_cons]
    cases hp : p z with
    | true => rw [h z hp]; simpa using this
    | false => cases q z <;> simp <;> omega
theorem mostS_mono {m v w : List Int} (h : ∀ x ∈ v, x ∈ w) (hv : mostS m v = true) : mostS m w = true := by
  have hlt : (onceS m).length < 2 * cnt (onceS m) v := of_decide_eq_true hv
  have : cnt (onceS m) v ≤ cnt (onceS m) w := filter_le (fun x hx => decide_eq_true (h x (of_decide_eq_true hx))) _
  exact decide_eq_true (by omega)
theorem mem_haveS {ps : List Pr} {n x : Int} : x ∈ haveS ps n ↔ ∃ p ∈ ps, n ≤ p.2.2 ∧ p.1 = x := by
  unfold haveS
  rw [List.mem_map]
  constructor
  · rintro ⟨p, hp, rfl⟩
    rw [List.mem_filter, decide_eq_true_eq] at hp
    exact ⟨p, hp.1, hp.2, rfl⟩
  · rintro ⟨p, h1, h2, rfl⟩
    exact ⟨p, List.mem_filter.2 ⟨h1, decide_eq_true h2⟩, rfl⟩
theorem haveS_more {ps : List Pr} {k : Nat} {more n : Int} (hk : k < ps.length) (x : Int) (hx : x ∈ haveS ps n) :
    x ∈ haveS (ps.set k ((ps.getD k (0, 0, 0)).1, (ps.getD k (0, 0, 0)).2.1, if more > (ps.getD k (0, 0, 0)).2.2 then more else (ps.getD k (0, 0, 0)).2.2)) n := by
  rw [mem_haveS] at hx ⊢
  obtain ⟨p, hp, h1, h2⟩ := hx
  obtain ⟨i, hi, rfl⟩ := List.mem_iff_getElem.1 hp
  by_cases e : i = k
  · subst e
    have eg : ps.getD i (0, 0, 0) = ps[i] := by rw [List.getD_eq_getElem?_getD, List.getElem?_eq_getElem hi]; rfl
    refine ⟨_, List.mem_iff_getElem.2 ⟨i, by rw [List.length_set]; exact hi, List.getElem_set_self _⟩, ?_, ?_⟩
    · rw [eg]; dsimp only; split <;> omega
    · rw [eg]; exact h2
  · exact ⟨ps[i], List.mem_iff_getElem.2 ⟨i, by rw [List.length_set]; exact hi, List.getElem_set_ne (fun h => e h.symm) _⟩, h1, h2⟩
theorem sure_loop (x1 x2 n x4 : Int) (x5 : Bool) (b u : Int) (xs : List E) (ms : List Int) (ps : List Pr) (t c z1 z2 : Int) (hl : ps.length ≤ 1000) : ∀ (r i : Nat), i + r = ps.length →
    L_law17_ReplSure_9 (x1, x2, n, x4, x5, (i : Int), ()) (haveS (ps.take i) n, (b, u, xs, ()), (ms, ps, t, c, ()), (z1, z2, ()), ()) = some ((x1, x2, n, x4, x5, ()), (haveS ps n, (b, u, xs, ()), (ms, ps, t, c, ()), ()))
  | 0, i, hr => by
    rw [Le_law17_ReplSure_9]
    unfold ltree_law17_ReplSure_9
    rw [cd_f (by omega), List.take_of_length_le (by omega)]
  | r + 1, i, hr => by
    rw [Le_law17_ReplSure_9]
    unfold ltree_law17_ReplSure_9
    have ih := sure_loop x1 x2 n x4 x5 b u xs ms ps t c z1 z2 hl r (i + 1) (by omega)
    rw [takeP (by omega : i < ps.length), haveS_snoc] at ih
    have hle := haveS_length (ps.take i) n
    rw [List.length_take] at hle
    simp (disch := omega) only [Int.toNat_natCast, cd_t, List.nil_append]
    rw [show IntKind.i64.wrap ((i : Int) + 1) = ((i + 1 : Nat) : Int) by rw [i64id] <;> omega]
    by_cases he : n ≤ (ps.getD i (0, 0, 0)).2.2
    · rw [if_pos he] at ih
      rw [cd_t he]
      exact ih
    · rw [if_neg he] at ih
      rw [cd_f he]
      exact ih
theorem ReplSure_plain {b u t c more who : Int} {xs : List E} {ms : List Int} {ps : List Pr} (hb : U b) (hc : U c) :
    F_law17_ReplSure ((b, u, xs, ()), (ms, ps, t, c, ()), (more, who, ()), ()) () = some (true, ()) := by
  rw [Fe_law17_ReplSure]
  unfold tree_law17_ReplSure
  rw [e_fixed17, e_May]
  simp only [Option.bind_some]
  rw [c_f (by rfl)]
  by_cases hm : b ≤ 4611686018427387904 ∧ xs.length ≤ 256
  rotate_left
  · rw [decide_eq_false hm, c_t (by rfl)]
  rw [decide_eq_true hm, c_f (by rfl)]
  by_cases h1 : ms.length > 20
  · rw [cd_t (by omega)]
  rw [cd_f (by omega)]
  by_cases h2 : ps.length > 20
  · rw [cd_t (by omega)]
  have hb' : 0 ≤ b ∧ b ≤ 4611686018427387904 := ⟨hb.1, hm.1⟩
  rw [cd_f (by omega), e_Commit hb' hm.2 (by omega) (by omega)]
  simp only [Option.bind_some]
  have hle := comS_le (goodS b u xs ms ps t) b c xs.length
  have hnone := comS_none (goodS b u xs ms ps t) b c xs.length
  have hagain : commitS b u xs ms ps t (commitS b u xs ms ps t c) = commitS b u xs ms ps t c := comS_still _ b _ xs.length hnone
  have hmore : ∀ k : Nat, k < ps.length → commitS b u xs ms ps t c ≤ commitS b u xs ms (ps.set k ((ps.getD k (0, 0, 0)).1, (ps.getD k (0, 0, 0)).2.1, if more > (ps.getD k (0, 0, 0)).2.2 then more else (ps.getD k (0, 0, 0)).2.2)) t c := fun k hk =>
    comS_mono (fun m hg => by
      unfold goodS at hg ⊢
      rw [Bool.and_eq_true] at hg ⊢
      exact ⟨hg.1, mostS_mono (fun x hx => haveS_more hk x hx) hg.2⟩) b c xs.length
  have tail : ∀ (n : Int), n = commitS b u xs ms ps t c → (cond (decide (who < 0)) (some (true, ())) (cond (decide (who ≥ (↑ps.length : Int))) (some (true, ()))
       (cond (decide ((0 + ps.length) * 24 ≤ 140737488355328))
         (cond (decide (0 ≤ who))
          (cond (decide (who < (↑([] ++ ps).length : Int)))
           (cond (decide (0 ≤ who))
            (cond (decide (who < (↑([] ++ ps).length : Int)))
             ((F_repl_Commit ((b, u, xs, ()), ms, ([] ++ ps).set (0 + who.toNat) ((([] ++ ps).getD (0 + who.toNat) (0, 0, 0)).fst, (([] ++ ps).getD (0 + who.toNat) (0, 0, 0)).snd.fst,
                 if more > (([] ++ ps).getD (0 + who.toNat) (0, 0, 0)).snd.snd then more else (([] ++ ps).getD (0 + who.toNat) (0, 0, 0)).snd.snd), t, c, ()) ()).bind fun r13 =>
              cond (decide (r13.fst ≥ n))
              ((F_repl_Commit ((b, u, xs, ()), ms, ps, t, n, ()) ()).bind fun r14 => some (r14.fst == n, ()))
              (some (false, ()))) none) none) none) none) none)) : Option (Bool × Unit)) = some (true, ()) := by
    intro n hn
    subst hn
    by_cases g1 : who < 0
    · rw [cd_t g1]
    rw [cd_f g1]
    by_cases g2 : who ≥ (↑ps.length : Int)
    · rw [cd_t g2]
    rw [cd_f g2, List.nil_append, Nat.zero_add, Nat.zero_add]
    simp (disch := omega) only [cd_t]
    rw [e_Commit hb' hm.2 (by omega) (by rw [List.length_set]; omega)]
    simp only [Option.bind_some]
    rw [cd_t (hmore who.toNat (by omega)), e_Commit hb' hm.2 (by omega) (by omega), hagain]
    simp
  by_cases hne : commitS b u xs ms ps t c = c
  · rw [c_f (bne_eq_false_iff_eq.2 hne)]
    exact tail _ rfl
  · rw [c_t (bne_iff_ne.2 hne)]
    rcases hle with h | ⟨k1, k2, k3, k4⟩
    · exact absurd h hne
    have k1 : commitS b u xs ms ps t c ≤ b + xs.length := k1
    have k2 : c < commitS b u xs ms ps t c := k2
    have k3 : b < commitS b u xs ms ps t c := k3
    have k4 : goodS b u xs ms ps t (commitS b u xs ms ps t c) = true := k4
    have tail' := tail _ rfl
    generalize commitS b u xs ms ps t c = n at *
    unfold goodS at k4
    rw [Bool.and_eq_true, decide_eq_true_eq] at k4
    have ht2 : (termS b u xs n).2 = true := by unfold termS entS; rw [if_neg (by omega), if_pos ⟨k3, by omega⟩]
    rw [e_rlog_Term ⟨hb'.1, by omega⟩ ⟨by omega, by omega⟩ (by omega)]
    simp only [Option.bind_some]
    have hL := sure_loop who more n (termS b u xs n).1 (termS b u xs n).2 b u xs ms ps t c more who (by omega) ps.length 0 (by omega)
    have hL : L_law17_ReplSure_9 (who, more, n, (termS b u xs n).1, (termS b u xs n).2, 0, ()) ([], (b, u, xs, ()), (ms, ps, t, c, ()), (more, who, ()), ()) = _ := hL
    rw [hL]
    simp only [Option.bind_some]
    rw [cd_f (by omega), cd_f (by omega), ht2, c_f (by rfl), c_f (bne_eq_false_iff_eq.2 k4.1), e_ref_Most (by omega) (by have := haveS_length ps n; omega)]
    simp only [Option.bind_some]
    rw [k4.2, c_f (by rfl)]
    exact tail'
end Go.Proofs.Ytjhaidbfahobmaa.S2
