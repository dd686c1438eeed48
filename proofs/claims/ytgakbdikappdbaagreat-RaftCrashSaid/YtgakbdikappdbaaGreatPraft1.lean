/- Raft's nodes, in plain words: may they be, copies, equality. -/
import Derived.Test.YtgakbdikappdbaaGreatGmay
import Derived.Test.YtgakbdikappdbaaGreatGis
import Derived.Test.YtgakbdikappdbaaGreatGcopy
import Derived.Test.YtgakbdikappdbaaGreatGfix
import Derived.Test.YtgakbdikappdbaaGreatPbase
set_option linter.unusedVariables false
set_option linter.unusedSimpArgs false
namespace Go.Proofs.YtgakbdikappdbaaGreat.S2
open Go
abbrev E := Int × Int × ByteArray
abbrev Pe := Int × Int × Int
abbrev Nd := Int × List Int × Int × Int × Int × Int × List E × ByteArray × Int × Int × Int × List Int × List Pe × Int × Unit
theorem e_fixed18 : F_law18_fixed () () = some ((), ()) := rfl
theorem nums_loop_refl (a : List Int) (hl : a.length ≤ 140737488355328) : ∀ (d k : Nat), k + d = a.length → L_ref01_Nums_4 (a, a, (k : Int), ()) () = some (.inr ((), ()))
  | 0, k, h => by
    rw [Le_ref01_Nums_4]
    unfold ltree_ref01_Nums_4
    rw [cd_f (by omega)]
  | d + 1, k, h => by
    rw [Le_ref01_Nums_4]
    unfold ltree_ref01_Nums_4
    rw [cd_t (by omega), cd_t (by omega), cd_t (by omega), cd_t (by omega), cd_t (by omega), c_f (by simp), i64id (by omega) (by omega)]
    have := nums_loop_refl a hl d (k + 1) (by omega)
    rw [show ((k : Int) + 1) = ((k + 1 : Nat) : Int) by omega]
    exact this
theorem e_Nums_refl {a : List Int} (hl : a.length ≤ 140737488355328) : F_ref01_Nums (a, a, ()) () = some (true, ()) := by
  rw [Fe_ref01_Nums]
  unfold tree_ref01_Nums
  rw [c_f (by simp)]
  exact bindS (nums_loop_refl a hl a.length 0 (by omega)) rfl
theorem ent_loop_refl (a : List E) (hl : a.length ≤ 140737488355328) : ∀ (d k : Nat), k + d = a.length → L_ref15_Entries_4 (a, a, (k : Int), ()) () = some (.inr ((), ()))
  | 0, k, h => by
    rw [Le_ref15_Entries_4]
    unfold ltree_ref15_Entries_4
    rw [cd_f (by omega)]
  | d + 1, k, h => by
    rw [Le_ref15_Entries_4]
    unfold ltree_ref15_Entries_4
    rw [cd_t (by omega), cd_t (by omega), cd_t (by omega), cd_t (by omega), cd_t (by omega), c_f (by simp), i64id (by omega) (by omega)]
    have := ent_loop_refl a hl d (k + 1) (by omega)
    rw [show ((k : Int) + 1) = ((k + 1 : Nat) : Int) by omega]
    exact this
theorem e_Entries_refl {a : List E} (hl : a.length ≤ 140737488355328) : F_ref15_Entries (a, a, ()) () = some (true, ()) := by
  rw [Fe_ref15_Entries]
  unfold tree_ref15_Entries
  rw [c_f (by simp)]
  exact bindS (ent_loop_refl a hl a.length 0 (by omega)) rfl
theorem e_Is15_refl {b t : Int} {a : List E} (hl : a.length ≤ 140737488355328) : F_ref15_Is ((b, t, a, ()), (b, t, a, ()), ()) () = some (true, ()) := by
  rw [Fe_ref15_Is]
  unfold tree_ref15_Is
  rw [c_t (by simp), c_t (by simp)]
  exact bindS (e_Entries_refl hl) rfl
section
variable (x1 : Int) (x2 : List Int) (x3 x4 x5 x6 : Int) (x7 : List E) (x8 : ByteArray) (x9 x10 x11 : Int) (x12 : List Int) (x13 : List Pe) (x14 : Int)
local notation "nd" => ((x1, x2, x3, x4, x5, x6, x7, x8, x9, x10, x11, x12, x13, x14, ()) : Nd)
theorem is_loop_refl (hl : x13.length ≤ 140737488355328) : ∀ (d k : Nat), k + d = x13.length → L_ref18_Is_6 ((k : Int), ()) (nd, nd, ()) = some (.inr ((), ()))
  | 0, k, h => by
    rw [Le_ref18_Is_6]
    unfold ltree_ref18_Is_6
    rw [cd_f (by omega)]
  | d + 1, k, h => by
    rw [Le_ref18_Is_6]
    unfold ltree_ref18_Is_6
    rw [cd_t (by omega), cd_t (by omega), cd_t (by omega), cd_t (by omega), cd_t (by omega), c_f (by simp), i64id (by omega) (by omega)]
    have := is_loop_refl hl d (k + 1) (by omega)
    rw [show ((k : Int) + 1) = ((k + 1 : Nat) : Int) by omega]
    exact this
theorem e_Is18_refl (h2 : x2.length ≤ 140737488355328) (h7 : x7.length ≤ 140737488355328) (h12 : x12.length ≤ 140737488355328) (h13 : x13.length ≤ 140737488355328) : F_ref18_Is (nd, nd, ()) () = some (true, ()) := by
  rw [Fe_ref18_Is]
  unfold tree_ref18_Is
  rw [c_f (by simp)]
  refine bindS (e_Nums_refl h2) ?_
  dsimp only
  rw [c_f (by simp), c_f (by simp)]
  refine bindS (e_Is15_refl h7) ?_
  dsimp only
  rw [c_f (by simp), c_f (by simp), c_f (by simp), c_f (by simp), c_f (by simp)]
  refine bindS (e_Nums_refl h12) ?_
  dsimp only
  rw [c_f (by simp), c_f (by simp), c_f (by simp)]
  exact bindS (is_loop_refl x1 x2 x3 x4 x5 x6 x7 x8 x9 x10 x11 x12 x13 x14 h13 x13.length 0 (by omega)) rfl
theorem peers7 (hl : x13.length ≤ 20) (i : Nat) (hi : i < x13.length) : ∀ (d k : Nat), k + d = i →
    L_ref18_peers_7 ((i : Int), (k : Int), ()) (nd, ()) = some (.inl ((false, ((i : Int), ())), (nd, ()))) ∨ L_ref18_peers_7 ((i : Int), (k : Int), ()) (nd, ()) = some (.inr (((i : Int), ()), (nd, ())))
  | 0, k, h => by
    rw [Le_ref18_peers_7]
    unfold ltree_ref18_peers_7
    rw [cd_f (by omega)]
    exact .inr rfl
  | d + 1, k, h => by
    rw [Le_ref18_peers_7]
    unfold ltree_ref18_peers_7
    rw [cd_t (by omega), cd_t (by omega), cd_t (by omega), cd_t (by omega), cd_t (by omega)]
    cases ((x13.getD ((k : Nat) : Int).toNat (0, 0, 0)).fst == (x13.getD ((i : Nat) : Int).toNat (0, 0, 0)).fst) with
    | true => exact .inl rfl
    | false =>
      rw [c_f rfl, i64id (by omega) (by omega)]
      have := peers7 hl i hi d (k + 1) (by omega)
      rw [show ((k : Int) + 1) = ((k + 1 : Nat) : Int) by omega]
      exact this
theorem peers2 (hl : x13.length ≤ 20) : ∀ (d k : Nat), k + d = x13.length → ∃ o, L_ref18_peers_2 ((k : Int), ()) (nd, ()) = some o
  | 0, k, h => by
    rw [Le_ref18_peers_2]
    unfold ltree_ref18_peers_2
    rw [cd_f (by omega)]
    exact ⟨_, rfl⟩
  | d + 1, k, h => by
    rw [Le_ref18_peers_2]
    unfold ltree_ref18_peers_2
    rw [cd_t (by omega), cd_t (by omega), cd_t (by omega)]
    have hlast : F_ref15_Last ((x5, x6, x7, ()), ()) () = some (IntKind.u64.wrap (x5 + IntKind.u64.wrap (x7.length : Int)), ()) := rfl
    rw [hlast, Option.bind_some]
    dsimp only
    cases (decide ((x13.getD ((k : Nat) : Int).toNat (0, 0, 0)).snd.snd > IntKind.u64.wrap (x5 + IntKind.u64.wrap (x7.length : Int)))) with
    | true => exact ⟨_, rfl⟩
    | false =>
      rw [c_f rfl]
      have h7 := peers7 x1 x2 x3 x4 x5 x6 x7 x8 x9 x10 x11 x12 x13 x14 hl k (by omega) k 0 (by omega)
      rcases h7 with h7 | h7
      · have h7 : L_ref18_peers_7 ((k : Int), 0, ()) (nd, ()) = _ := h7
        rw [h7, Option.bind_some, Sum.elim_inl]
        exact ⟨_, rfl⟩
      · have h7 : L_ref18_peers_7 ((k : Int), 0, ()) (nd, ()) = _ := h7
        rw [h7, Option.bind_some, Sum.elim_inr]
        dsimp only
        rw [i64id (by omega) (by omega)]
        have := peers2 hl d (k + 1) (by omega)
        rw [show ((k : Int) + 1) = ((k + 1 : Nat) : Int) by omega]
        exact this
theorem e_peers (hl : x13.length ≤ 20) : ∃ b, F_ref18_peers (nd, ()) () = some (b, ()) := by
  rw [Fe_ref18_peers]
  unfold tree_ref18_peers
  obtain ⟨o, ho⟩ := peers2 x1 x2 x3 x4 x5 x6 x7 x8 x9 x10 x11 x12 x13 x14 hl x13.length 0 (by omega)
  have ho : L_ref18_peers_2 (0, ()) (nd, ()) = some o := ho
  rw [ho, Option.bind_some]
  rcases o with o | o <;> exact ⟨_, rfl⟩
theorem e_May18 : ∃ b, F_ref18_May (nd, ()) () = some (b, ()) ∧ (b = true → x2.length ≤ 20 ∧ x7.length ≤ 256 ∧ x12.length ≤ 20 ∧ x13.length ≤ 20) := by
  rw [Fe_ref18_May]
  unfold tree_ref18_May
  have hf : ∀ {p : Prop}, ∃ b, (some (false, ()) : Option (Bool × Unit)) = some (b, ()) ∧ (b = true → p) := ⟨false, rfl, fun h => by cases h⟩
  have h15 : F_ref15_May ((x5, x6, x7, ()), ()) () = cond (decide (x5 ≤ 4611686018427387904)) (some (decide ((x7.length : Int) ≤ 256), ())) (some (false, ())) := rfl
  rw [h15]
  by_cases h5 : x5 ≤ 4611686018427387904
  · rw [cd_t h5, Option.bind_some]
    dsimp only
    by_cases h7 : (x7.length : Int) ≤ 256
    · rw [cd_t h7]
      by_cases h11 : x11 ≥ x5
      · rw [cd_t h11]
        have hlast : F_ref15_Last ((x5, x6, x7, ()), ()) () = some (IntKind.u64.wrap (x5 + IntKind.u64.wrap (x7.length : Int)), ()) := rfl
        rw [hlast, Option.bind_some]
        dsimp only
        cases decide (x11 ≤ IntKind.u64.wrap (x5 + IntKind.u64.wrap (x7.length : Int))) with
        | false => exact hf
        | true =>
          rw [c_t rfl]
          by_cases h13 : (x13.length : Int) ≤ 20
          · rw [cd_t h13]
            by_cases h12 : (x12.length : Int) ≤ 20
            · rw [cd_t h12]
              by_cases h2 : (x2.length : Int) ≤ 20
              · rw [cd_t h2]
                obtain ⟨b, hb⟩ := e_peers x1 x2 x3 x4 x5 x6 x7 x8 x9 x10 x11 x12 x13 x14 (by omega)
                rw [hb, Option.bind_some]
                exact ⟨b, rfl, fun _ => ⟨by omega, by omega, by omega, by omega⟩⟩
              · rw [cd_f h2]; exact hf
            · rw [cd_f h12]; exact hf
          · rw [cd_f h13]; exact hf
      · rw [cd_f h11]; exact hf
    · rw [cd_f h7]; exact hf
  · rw [cd_f h5, Option.bind_some]
    exact hf
theorem e_Copy (h2 : x2.length ≤ 20) (h7 : x7.length ≤ 256) (h12 : x12.length ≤ 20) (h13 : x13.length ≤ 20) : F_raft_Copy (nd, ()) () = some (nd, ()) := by
  rw [Fe_raft_Copy]
  unfold tree_raft_Copy
  refine bindS (a := (x2, ())) (by unfold F_slices_Clone_uint64; exact cd_t (by dsimp only; omega)) ?_
  refine bindS (a := (x12, ())) (by unfold F_slices_Clone_uint64; exact cd_t (by dsimp only; omega)) ?_
  refine bindS (a := (x13, ())) (by unfold F_slices_Clone_api_Peer; exact cd_t (by dsimp only; omega)) ?_
  refine bindS (a := (x7, ())) (by unfold F_slices_Clone_api_Entry; exact cd_t (by dsimp only; omega)) ?_
  rfl
end
end Go.Proofs.YtgakbdikappdbaaGreat.S2
