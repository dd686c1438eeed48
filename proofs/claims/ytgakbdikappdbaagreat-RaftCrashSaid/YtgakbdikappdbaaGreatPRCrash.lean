/- Behind a crash a node has what it must not forget, in plain words. -/
import Derived.Test.YtgakbdikappdbaaGreatPraft3
import Derived.Test.YtgakbdikappdbaaGreatGLRaftCrash
set_option linter.unusedVariables false
set_option linter.unusedSimpArgs false
namespace Go.Proofs.YtgakbdikappdbaaGreat.S2
open Go
theorem e_begun3 (x1 : Int) (x2 : List Int) (x3 x4 x5 x6 : Int) (x7 : List E) (x8 : ByteArray) (x9 x10 x11 : Int) (x12 : List Int) (x13 : List Pe) (x14 : Int) (h2 : x2.length ≤ 20) (h7 : x7.length ≤ 256) (h12 : x12.length ≤ 20) (h13 : x13.length ≤ 20) :
    F_raft_begun ((x1, x2, x3, x4, x5, x6, x7, x8, x9, x10, x11, x12, x13, x14, ()), 3, ()) () = some ((), ((x1, x2, x3, x4, x5, x6, x7, x8, x9, x10, x11, x12, x13, x14, 3, ()), ())) := by
  rw [Fe_raft_begun]
  unfold tree_raft_begun
  exact bindS (e_Copy x1 x2 x3 x4 x5 x6 x7 x8 x9 x10 x11 x12 x13 x14 h2 h7 h12 h13) rfl
theorem e_Restart (x1 : Int) (x2 : List Int) (x3 x4 x5 x6 : Int) (x7 : List E) (x8 : ByteArray) (x9 x10 x11 : Int) (x12 : List Int) (x13 : List Pe) (x14 : Int) (h2 : x2.length ≤ 20) (h7 : x7.length ≤ 256) (h12 : x12.length ≤ 20) (h13 : x13.length ≤ 20) :
    F_raft_Restart ((x1, x2, x3, x4, x5, x6, x7, x8, x9, x10, x11, x12, x13, x14, ()), ()) () = some ((x1, x2, x3, x4, x5, x6, x7, x8, 0, 0, x5, [], [], 0, ()), ()) := by
  rw [Fe_raft_Restart]
  unfold tree_raft_Restart
  exact bindS (e_Copy x1 x2 x3 x4 x5 x6 x7 x8 x9 x10 x11 x12 x13 x14 h2 h7 h12 h13) rfl
theorem e_asked {nums : List Int} {texts : List ByteArray} {x4 x6 x7 x8 x9 : Int} {x10 : List E} {t v : Int} {ok : Bool} (hn : nums.length = 4) (hA : F_vote_Ask ((x6, x7, ()), (x8, x9, x10, ()), nums.getD 0 0, nums.getD 1 0, nums.getD 2 0, nums.getD 3 0, ()) () = some (((t, v, ()), ok, ()), ()))
    (x5 : List Int) (x11 : ByteArray) (x12 x13 x14 : Int) (x15 : List Int) (x16 : List Pe) (x17 x18 : Int) :
    ∃ w, F_raft_node_asked ((0, nums, texts, ()), ()) ((x4, x5, x6, x7, x8, x9, x10, x11, x12, x13, x14, x15, x16, x17, x18, ()), ()) = some ((), ((x4, x5, t, v, x8, x9, x10, x11, x12, x13, x14, x15, x16, w, x18, ()), ([(nums.getD 1 0, 1, [t, x4, cond ok 1 0], [])], ()))) := by
  rw [Fe_raft_node_asked]
  unfold tree_raft_node_asked
  rw [cd_t (by omega), cd_t (by omega), cd_t (by omega), cd_t (by omega), hA, Option.bind_some]
  cases ok with
  | true => rw [c_t rfl, cd_t (by omega)]; exact ⟨_, rfl⟩
  | false => rw [c_f rfl, cd_t (by omega)]; exact ⟨_, rfl⟩
theorem e_Seen {t v x : Int} : ∃ p q, F_vote_Seen ((t, v, ()), x, ()) () = some ((p, q, ()), ()) := by
  rw [Fe_vote_Seen]
  unfold tree_vote_Seen
  cases decide (t ≥ x) with
  | true => exact ⟨_, _, rfl⟩
  | false => exact ⟨_, _, rfl⟩
theorem e_Recv (x1 x3 x4 x5 x6 : Int) (x7 : List E) (x8 : ByteArray) (nums : List Int) (texts : List ByteArray) (hU : ∀ x ∈ nums, Uq x) (h5 : 0 ≤ x5) (h7 : x7.length ≤ 256) :
    ∃ (t v : Int) (os : List Ou), os.length ≤ 1 ∧ (∀ o ∈ os, o.2.2.1.length ≤ 1000 ∧ o.2.2.2.length ≤ 1000) ∧ ∀ (x2 : List Int) (x9 x10 x11 : Int) (x12 : List Int) (x13 : List Pe) (x14 : Int), x2.length ≤ 20 → x12.length ≤ 20 → x13.length ≤ 20 →
      ∃ r : Nd, F_raft_Receive ((x1, x2, x3, x4, x5, x6, x7, x8, x9, x10, x11, x12, x13, x14, ()), (0, nums, texts, ()), 3, ()) () = some ((r, os, ()), ()) ∧ r.2.2.1 = t ∧ r.2.2.2.1 = v := by
  obtain ⟨c, hc, hcl⟩ := e_Check0 (texts := texts) hU
  by_cases h0 : c = 0
  · have hn := hcl h0
    subst h0
    by_cases ha : (nums.getD 1 0 == 18446744073709551615) = true
    · refine ⟨x3, x4, [], by simp, by simp, fun x2 x9 x10 x11 x12 x13 x14 h2 h12 h13 => ⟨(x1, x2, x3, x4, x5, x6, x7, x8, x9, x10, x11, x12, x13, x14, ()), ?_, rfl, rfl⟩⟩
      rw [Fe_raft_Receive]
      unfold tree_raft_Receive
      refine bindS (e_begun3 x1 x2 x3 x4 x5 x6 x7 x8 x9 x10 x11 x12 x13 x14 h2 h7 h12 h13) ?_
      refine bindS hc ?_
      dsimp only
      rw [c_f (b := (0 : Int) != 0) rfl, cd_f (by decide), cd_t (by omega), c_t ha]
    · have ha := Bool.not_eq_true _ ▸ ha
      by_cases hb : (nums.getD 1 0 == x1) = true
      · refine ⟨x3, x4, [], by simp, by simp, fun x2 x9 x10 x11 x12 x13 x14 h2 h12 h13 => ⟨(x1, x2, x3, x4, x5, x6, x7, x8, x9, x10, x11, x12, x13, x14, ()), ?_, rfl, rfl⟩⟩
        rw [Fe_raft_Receive]
        unfold tree_raft_Receive
        refine bindS (e_begun3 x1 x2 x3 x4 x5 x6 x7 x8 x9 x10 x11 x12 x13 x14 h2 h7 h12 h13) ?_
        refine bindS hc ?_
        dsimp only
        rw [c_f (b := (0 : Int) != 0) rfl, cd_f (by decide), cd_t (by omega), c_f ha, cd_t (by omega), c_t hb]
      · have hb := Bool.not_eq_true _ ▸ hb
        by_cases hd : nums.getD 0 0 > x3
        · obtain ⟨p, q, hS⟩ := e_Seen (t := x3) (v := x4) (x := nums.getD 0 0)
          obtain ⟨t, v, ok, hA⟩ := e_Ask (t := p) (v := q) (b := x5) (bt := x6) (a0 := nums.getD 0 0) (a1 := nums.getD 1 0) (a2 := nums.getD 2 0) (a3 := nums.getD 3 0) (es := x7) h5 (by omega)
          refine ⟨t, v, [(nums.getD 1 0, 1, [t, x1, cond ok 1 0], [])], by simp, by simp, fun x2 x9 x10 x11 x12 x13 x14 h2 h12 h13 => ?_⟩
          obtain ⟨w, hw⟩ := e_asked (texts := texts) (x4 := x1) hn hA x2 x8 0 0 x11 [] [] x14 3
          refine ⟨(x1, x2, t, v, x5, x6, x7, x8, 0, 0, x11, [], [], w, ()), ?_, rfl, rfl⟩
          rw [Fe_raft_Receive]
          unfold tree_raft_Receive
          refine bindS (e_begun3 x1 x2 x3 x4 x5 x6 x7 x8 x9 x10 x11 x12 x13 x14 h2 h7 h12 h13) ?_
          refine bindS hc ?_
          dsimp only
          rw [c_f (b := (0 : Int) != 0) rfl, cd_f (by decide), cd_t (by omega), c_f ha, cd_t (by omega), c_f hb, cd_t (by omega)]
          have hh : F_raft_node_hear (nums.getD 0 0, ()) ((x1, x2, x3, x4, x5, x6, x7, x8, x9, x10, x11, x12, x13, x14, 3, ()), ()) = some (.inl ((), ((x1, x2, p, q, x5, x6, x7, x8, 0, 0, x11, x14, 3, ()), ()))) := by
            rw [Fe_raft_node_hear]
            unfold tree_raft_node_hear
            rw [cd_t hd, hS]
            rfl
          refine bindS hh ?_
          dsimp only [Sum.elim_inl]
          rw [c_t (b := (0 : Int) == 0) rfl]
          exact bindS hw rfl
        · obtain ⟨t, v, ok, hA⟩ := e_Ask (t := x3) (v := x4) (b := x5) (bt := x6) (a0 := nums.getD 0 0) (a1 := nums.getD 1 0) (a2 := nums.getD 2 0) (a3 := nums.getD 3 0) (es := x7) h5 (by omega)
          refine ⟨t, v, [(nums.getD 1 0, 1, [t, x1, cond ok 1 0], [])], by simp, by simp, fun x2 x9 x10 x11 x12 x13 x14 h2 h12 h13 => ?_⟩
          obtain ⟨w, hw⟩ := e_asked (texts := texts) (x4 := x1) hn hA x2 x8 x9 x10 x11 x12 x13 x14 3
          refine ⟨(x1, x2, t, v, x5, x6, x7, x8, x9, x10, x11, x12, x13, w, ()), ?_, rfl, rfl⟩
          rw [Fe_raft_Receive]
          unfold tree_raft_Receive
          refine bindS (e_begun3 x1 x2 x3 x4 x5 x6 x7 x8 x9 x10 x11 x12 x13 x14 h2 h7 h12 h13) ?_
          refine bindS hc ?_
          dsimp only
          rw [c_f (b := (0 : Int) != 0) rfl, cd_f (by decide), cd_t (by omega), c_f ha, cd_t (by omega), c_f hb, cd_t (by omega)]
          have hh : F_raft_node_hear (nums.getD 0 0, ()) ((x1, x2, x3, x4, x5, x6, x7, x8, x9, x10, x11, x12, x13, x14, 3, ()), ()) = some (.inr ((), ((x1, x2, x3, x4, x5, x6, x7, x8, x9, x10, x11, x12, x13, x14, 3, ()), ()))) := by
            rw [Fe_raft_node_hear]
            unfold tree_raft_node_hear
            rw [cd_f hd]
          refine bindS hh ?_
          dsimp only [Sum.elim_inr]
          rw [c_t (b := (0 : Int) == 0) rfl]
          exact bindS hw rfl
  · refine ⟨x3, x4, [], by simp, by simp, fun x2 x9 x10 x11 x12 x13 x14 h2 h12 h13 => ⟨(x1, x2, x3, x4, x5, x6, x7, x8, x9, x10, x11, x12, x13, x14, ()), ?_, rfl, rfl⟩⟩
    rw [Fe_raft_Receive]
    unfold tree_raft_Receive
    refine bindS (e_begun3 x1 x2 x3 x4 x5 x6 x7 x8 x9 x10 x11 x12 x13 x14 h2 h7 h12 h13) ?_
    refine bindS hc ?_
    dsimp only
    rw [c_t (by simp [h0])]
theorem RaftCrash_plain (x : Nd) (k : Int) (nums : List Int) (texts : List ByteArray) (h5 : 0 ≤ x.2.2.2.2.1) (hU : ∀ y ∈ nums, Uq y) : F_law18_RaftCrash (x, (k, nums, texts, ()), ()) () = some (true, ()) := by
  obtain ⟨x1, x2, x3, x4, x5, x6, x7, x8, x9, x10, x11, x12, x13, x14, ⟨⟩⟩ := x
  dsimp only at h5
  rw [Fe_law18_RaftCrash]
  unfold tree_law18_RaftCrash
  refine bindS e_fixed18 ?_
  obtain ⟨b, hb, hm⟩ := e_May18 x1 x2 x3 x4 x5 x6 x7 x8 x9 x10 x11 x12 x13 x14
  refine bindS hb ?_
  cases b with
  | false =>
    dsimp only
    rw [c_t (b := !false) rfl]
    exact bindS e_fixed18 rfl
  | true =>
    obtain ⟨h2, h7, h12, h13⟩ := hm rfl
    dsimp only
    rw [c_f (b := !true) rfl]
    refine bindS (e_Restart x1 x2 x3 x4 x5 x6 x7 x8 x9 x10 x11 x12 x13 x14 h2 h7 h12 h13) ?_
    dsimp only
    rw [c_t (by simp)]
    refine bindS (e_Nums_refl (by omega)) ?_
    dsimp only
    rw [c_t rfl, c_t (by simp)]
    refine bindS (e_Is15_refl (by omega)) ?_
    dsimp only
    rw [c_t rfl, c_t (by simp), c_t (by simp), c_t (by simp), c_t (by simp), c_t (by simp), c_f (by simp), c_f (by simp)]
    refine bindS (e_Restart x1 x2 x3 x4 x5 x6 x7 x8 0 0 x5 [] [] 0 h2 h7 (by simp) (by simp)) ?_
    refine bindS (e_Is18_refl x1 x2 x3 x4 x5 x6 x7 x8 0 0 x5 [] [] 0 (by omega) (by omega) (by simp) (by simp)) ?_
    dsimp only
    rw [c_f (b := !true) rfl]
    by_cases hk : k = 0
    · subst hk
      rw [c_f (b := (0 : Int) != 0) rfl]
      obtain ⟨t, v, os, ho, hw, hR⟩ := e_Recv x1 x3 x4 x5 x6 x7 x8 nums texts hU h5 h7
      obtain ⟨r, hr, r3, r4⟩ := hR x2 x9 x10 x11 x12 x13 x14 h2 h12 h13
      obtain ⟨s, hs, s3, s4⟩ := hR x2 0 0 x5 [] [] 0 h2 (by simp) (by simp)
      refine bindS hr ?_
      refine bindS hs ?_
      dsimp only
      rw [c_t (by simp [r3, r4, s3, s4])]
      exact bindS (e_Outs_refl ho hw) rfl
    · rw [c_t (by simp [hk])]
end Go.Proofs.YtgakbdikappdbaaGreat.S2
