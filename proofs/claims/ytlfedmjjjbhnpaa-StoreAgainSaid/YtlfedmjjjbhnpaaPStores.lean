/- Texts; what is settled; a store that is opened again; acts. -/
import Derived.Test.YtlfedmjjjbhnpaaGLStoreTexts
import Derived.Test.YtlfedmjjjbhnpaaGLStoreSettles
import Derived.Test.YtlfedmjjjbhnpaaGLStoreAgain
import Derived.Test.YtlfedmjjjbhnpaaGLStorePlays
import Derived.Test.YtlfedmjjjbhnpaaPrstore
import Derived.Test.YtlfedmjjjbhnpaaP22
set_option linter.unusedVariables false
set_option linter.unusedSimpArgs false
namespace Go.Proofs.Ytlfedmjjjbhnpaa.S2
open Go

theorem p_Texts {t : TrT} {s : ByteArray} (ht : TrOk t) (hs : s.size ≤ 140737488355328) : F_law22_StoreTexts (t, s, ()) () = some (true, ()) := by
  have e1 := e_Parse (s := s) (by omega)
  have e2 := r_Parse (s := s) (by omega)
  have hz := text_size ht
  have hf := ht.f
  have e3 := e_Text ht
  have e4 := r_Text ht
  have e5 := e_Parse (s := textB t) (by omega)
  have e6 := r_Parse (s := textB t) (by omega)
  obtain ⟨a, b, c, d, e, f, ⟨⟩⟩ := t
  rw [Fe_law22_StoreTexts]
  unfold tree_law22_StoreTexts
  simp only [e1, e2, e3, e4, e5, e6, e_fixed22, Option.bind_some, cond_true, bytes_self, beq_self_eq_true, Bool.and_true, Bool.false_xor]
  rw [par_text ht]
  have hfin : cond (!(parS s).2) (some (true, ())) ((F_store_Text ((parS s).1, ()) ()).bind fun r => some (r.1.toList == s.toList, ())) = some (true, ()) := by
    cases hp : (parS s).2 with
    | false => rfl
    | true =>
      obtain ⟨h1, h2, h3⟩ := par_back hs hp
      rw [e_Text h2]
      simp only [Bool.not_true, cond_false, Option.bind_some]
      rw [← h1, bytes_self]
  by_cases hm : mayT (a, b, c, d, e, f, ())
  · simp only [if_pos hm, Bool.not_true, cond_false, beq_self_eq_true, bytes_self, Bool.and_true, Bool.false_xor, cond_true]
    exact hfin
  · simp only [if_neg hm, Bool.not_false, cond_true]
    exact hfin

theorem p_Settles {root sector next : Int} {leaf : ByteArray} (h1 : u64I root) (h2 : u64I sector) (h3 : u64I next) (h4 : leaf.size ≤ 140737488355328) : F_law22_StoreSettles ((root, sector, next, ()), leaf, ()) () = some (true, ()) := by
  rw [Fe_law22_StoreSettles]
  unfold tree_law22_StoreSettles
  have hS := slotG_new (size := 128) (by decide) (by decide)
  rw [e_made (show okN 2 128 by decide), if_neg (by decide)]
  simp only [Option.bind_some, Sum.elim_inl]
  rw [e_fixed22]
  simp only [Option.bind_some, Bool.not_true, cond_false]
  rw [e_Reset h1 (slot_D hS) (by simp)]
  have okr := reset_ok h1
  have z0 := text_size okr
  have zr : (textB (resetT root)).size ≤ 60 := z0
  obtain ⟨S1, e1, g1, _⟩ := st_save hS (by decide) okr (may_reset root)
  rw [decide_eq_true (by omega)] at e1
  have k1 := g1 (by omega)
  rw [e1]
  simp only [Option.bind_some, Bool.not_true, cond_false]
  rw [e_Trust (slot_D k1.slot), e_Intend h2 h3 h4 (slot_D k1.slot) (by simp), k1.trust]
  simp only [Option.bind_some]
  have i1 : intT (resetT root, true) sector leaf next = some (root, 0, 1, sector, next, leaf, ()) := rfl
  have oku := int_ok (fun _ => okr) h2 h3 h4 i1
  rw [i1]
  obtain ⟨S2, e2, g2, n2⟩ := st_save k1.slot (by decide) oku (may_int i1)
  rw [e2]
  by_cases hfit : ((textB (root, 0, 1, sector, next, leaf, ())).size : Int) ≤ 128 - 18
  · have k2 := g2 hfit
    rw [decide_eq_true hfit]
    simp only [Bool.not_true, cond_false]
    rw [e_Trust (slot_D k2.slot), e_Intend h2 h3 (show ByteArray.empty.size ≤ 140737488355328 by decide) (slot_D k2.slot) (by simp), k2.trust]
    have i2 : intT ((root, 0, 1, sector, next, leaf, ()), true) sector ByteArray.empty next = none := rfl
    rw [i2]
    simp only [Option.bind_some, beq_self_eq_true, bytes_self, Bool.and_true, Bool.xor_self, doD, cond_false]
    rw [e_Settle (slot_D k2.slot) (by simp), k2.trust]
    have i3 : setT ((root, 0, 1, sector, next, leaf, ()), true) false = some (resetT root) := rfl
    rw [i3]
    obtain ⟨S3, e3, g3, _⟩ := st_save k2.slot (by decide) okr (may_reset root)
    rw [decide_eq_true (by omega)] at e3
    have k3 := g3 (by omega)
    rw [e3]
    simp only [Option.bind_some, Bool.not_true, cond_false]
    rw [e_Trust (slot_D k3.slot), k3.trust]
    simp only [Option.bind_some, beq_self_eq_true, bytes_self, Bool.and_true, Bool.xor_self, cond_false]
    rw [e_Settle (slot_D k3.slot) (by simp), k3.trust]
    have i4 : setT (resetT root, true) false = none := rfl
    rw [i4]
    simp only [Option.bind_some, doD, cond_false]
    rw [e_Intend h2 h3 h4 (slot_D k3.slot) (by simp), k3.trust, i1]
    obtain ⟨S4, e4, g4, _⟩ := st_save k3.slot (by decide) oku (may_int i1)
    rw [decide_eq_true hfit] at e4
    have k4 := g4 hfit
    rw [e4]
    simp only [Option.bind_some, Bool.not_true, cond_false]
    rw [e_Settle (slot_D k4.slot) (by simp), k4.trust]
    have i5 : setT ((root, 0, 1, sector, next, leaf, ()), true) true = some (next, 1, 0, 0, 0, ByteArray.empty, ()) := rfl
    rw [i5]
    have ok5 := set_ok (fun _ => oku) i5
    have z5 := text_size ok5
    have z5' : (textB (next, 1, 0, 0, 0, ByteArray.empty, ())).size ≤ 60 := z5
    obtain ⟨S5, e5, g5, _⟩ := st_save k4.slot (by decide) ok5 (may_set i5)
    rw [decide_eq_true (by omega)] at e5
    have k5 := g5 (by omega)
    rw [e5]
    simp only [Option.bind_some, Bool.not_true, cond_false]
    rw [e_Trust (slot_D k5.slot), k5.trust]
    simp only [Option.bind_some, beq_self_eq_true, bytes_self, Bool.and_true, Bool.false_xor]
  · obtain rfl := n2 hfit
    rw [decide_eq_false hfit]
    simp only [Bool.not_false, cond_true]
    rw [r_Text oku]
    simp only [Option.bind_some]
    rw [e_RFrame (by decide) (by decide)]
    simp only [Option.bind_some]
    rw [e_Trust (slot_D k1.slot), k1.trust]
    have hf : frameS 1 (textB (root, 0, 1, sector, next, leaf, ())) 128 = (ByteArray.empty, false) := if_neg (fun h => hfit h.2.2.2)
    rw [hf]
    simp only [Option.bind_some, Bool.not_false, cond_true, beq_self_eq_true, bytes_self, Bool.and_true, Bool.false_xor]

/-- Acts that are resets, intents and settlings keep a store a store. -/
theorem act_st {size : Int} {S : List ByteArray} {n : Int} {t : TrT} {x : ActS} (h : StG size S n t) (hn : n < 1000000) (hx : ActOk x) (h0 : 0 ≤ x.1) (h3 : x.1 ≤ 3) :
    ∃ S' n', actD size S [] x = ((stepT size t (opT x (t, true))).1, S', []) ∧ StG size S' n' (stepT size t (opT x (t, true))).2 ∧ n' ≤ n + 1 ∧ ((stepT size t (opT x (t, true))).1 = false → S' = S ∧ (stepT size t (opT x (t, true))).2 = t) := by
  unfold actD
  rw [if_pos ⟨h0, h3⟩, h.trust]
  exact st_step h hn (opT_ok hx fun _ => h.ok)

theorem Again_loop {l : List ActS} {keep : List Int} (hl : ∀ j, j < l.length → ActOk (l.getD j (0, 0, 0, 0, ByteArray.empty, []))) : ∀ (d k : Nat) (S : List ByteArray) (n : Int) (t : TrT), StG 128 S n t → n ≤ k + 1 → k + d = (l.take 40).length →
    ∃ S' n' t', StG 128 S' n' t' ∧ L_law22_StoreAgain_6 (l, keep, (k : Int), ()) ([], (), (128, ()), S, ()) = some ((keep, ()), ([], (), (128, ()), S', ()))
  | 0, k, S, n, t, h, hn, hk => by
    refine ⟨S, n, t, h, ?_⟩
    rw [Le_law22_StoreAgain_6]
    unfold ltree_law22_StoreAgain_6
    rw [List.length_take] at hk
    simp only [cond_decide]
    by_cases h1 : (k : Int) < l.length
    · rw [if_pos h1, if_neg (show ¬ (k : Int) < 40 by omega)]
    · rw [if_neg h1]
  | d + 1, k, S, n, t, h, hn, hk => by
    have hk2 := hk
    rw [List.length_take] at hk2
    have hi : (k : Int) < l.length := by omega
    have hi4 : (k : Int) < 40 := by omega
    have hi0 : (0 : Int) ≤ k := by omega
    have hx := hl k (by omega)
    rw [Le_law22_StoreAgain_6]
    unfold ltree_law22_StoreAgain_6
    simp only [cd_t hi, cd_t hi4, cd_t hi0, Int.toNat_natCast, cond_decide]
    rw [i64id (n := (k : Int) + 1) (by omega) (by omega), show ((k : Int) + 1) = ((k + 1 : Nat) : Int) by omega]
    by_cases h0 : (l.getD k (0, 0, 0, 0, ByteArray.empty, [])).1 ≥ 0
    · rw [if_pos h0]
      by_cases h3 : (l.getD k (0, 0, 0, 0, ByteArray.empty, [])).1 ≤ 3
      · rw [if_pos h3, e_done hx (slot_D h.slot) (by simp)]
        obtain ⟨S', n', e1, e2, e3, _⟩ := act_st h (by omega) hx h0 h3
        rw [e1]
        simp only [Option.bind_some]
        exact Again_loop hl d (k + 1) S' n' _ e2 (by omega) (by omega)
      · rw [if_neg h3]
        exact Again_loop hl d (k + 1) S n t h (by omega) (by omega)
    · rw [if_neg h0]
      exact Again_loop hl d (k + 1) S n t h (by omega) (by omega)

theorem p_Again {l : List ActS} {keep : List Int} (hl : ∀ j, j < l.length → ActOk (l.getD j (0, 0, 0, 0, ByteArray.empty, []))) : F_law22_StoreAgain (l, keep, ()) () = some (true, ()) := by
  rw [Fe_law22_StoreAgain]
  unfold tree_law22_StoreAgain
  have hS := slotG_new (size := 128) (by decide) (by decide)
  rw [e_made (show okN 2 128 by decide), if_neg (by decide)]
  simp only [Option.bind_some, Sum.elim_inl]
  rw [e_fixed22]
  simp only [Option.bind_some, Bool.not_true, cond_false]
  have h7 : u64I 7 := by unfold u64I; decide
  rw [e_Reset h7 (slot_D hS) (by simp)]
  have okr := reset_ok h7
  have zr : (textB (resetT 7)).size ≤ 60 := text_size okr
  obtain ⟨S1, e1, g1, _⟩ := st_save hS (by decide) okr (may_reset 7)
  have k1 := g1 (by omega)
  rw [e1]
  simp only [Option.bind_some]
  obtain ⟨S2, n2, t2, k2, hloop⟩ := Again_loop (keep := keep) hl (l.take 40).length 0 S1 1 _ k1 (by omega) (by omega)
  rw [show ((0 : Nat) : Int) = 0 from rfl] at hloop
  rw [hloop]
  simp only [Option.bind_some]
  rw [e_Trust (slot_D k2.slot), e_Crash (slot_D k2.slot)]
  simp only [Option.bind_some, keepS]
  rw [e_Open]
  obtain ⟨s0, s1, rfl, _, _⟩ := k2.slot.two
  rw [if_neg (by simp)]
  simp only [Option.bind_some, Sum.elim_inr]
  rw [e_Trust (slot_D k2.slot), k2.trust, e_Pending]
  simp only [Option.bind_some, beq_self_eq_true, bytes_self, Bool.and_true, Bool.false_xor, cond_true]
  rfl

theorem StPlays_loop {l : List ActS} {size : Int} (hl : ∀ j, j < l.length → ActOk (l.getD j (0, 0, 0, 0, ByteArray.empty, []))) : ∀ (d k : Nat) (S : List ByteArray) (P : List W2), DInv size S P → P.length ≤ k → k + d = (l.take 60).length →
    L_law22_StorePlays_6 (l, true, (k : Int), ()) (P, pendR P, (), (size, ()), S, (size, ()), S, ()) = some (.inr ((), ()))
  | 0, k, S, P, h, hp, hk => by
    rw [Le_law22_StorePlays_6]
    unfold ltree_law22_StorePlays_6
    rw [List.length_take] at hk
    simp only [cond_true, cond_decide]
    by_cases h1 : (k : Int) < l.length
    · rw [if_pos h1, if_neg (show ¬ (k : Int) < 60 by omega)]
    · rw [if_neg h1]
  | d + 1, k, S, P, h, hp, hk => by
    have hk2 := hk
    rw [List.length_take] at hk2
    have hi : (k : Int) < l.length := by omega
    have hi4 : (k : Int) < 60 := by omega
    have hi0 : (0 : Int) ≤ k := by omega
    have hx := hl k (by omega)
    obtain ⟨hD, hlen⟩ := act_DInvS (x := l.getD k (0, 0, 0, 0, ByteArray.empty, [])) h (by omega)
    have hrec := StPlays_loop (size := size) hl d (k + 1) _ _ hD (by omega) (by omega)
    have hdone := e_done hx h (by omega)
    rw [Le_law22_StorePlays_6]
    unfold ltree_law22_StorePlays_6
    simp only [cond_true, cd_t hi, cd_t hi4, cd_t hi0, Int.toNat_natCast, cond_eqi]
    rw [i64id (n := (k : Int) + 1) (by omega) (by omega), show ((k : Int) + 1) = ((k + 1 : Nat) : Int) by omega]
    rw [hdone]
    simp only [Option.bind_some]
    rw [e_Trust hD]
    simp only [Option.bind_some]
    by_cases h0 : (l.getD k (0, 0, 0, 0, ByteArray.empty, [])).1 = 0
    · have ha : actD size S P (l.getD k (0, 0, 0, 0, ByteArray.empty, [])) = doD size S P (some (resetT (l.getD k (0, 0, 0, 0, ByteArray.empty, [])).2.2.1)) := by
        unfold actD opT; rw [if_pos (by omega), if_pos h0]
      rw [if_pos h0, r_Reset hx.a h (by omega), ← ha]
      simp only [Option.bind_some]
      rw [r_Trust hD]
      simp only [Option.bind_some, bne_self_eq_false, cond_false, beq_self_eq_true, bytes_self, Bool.and_true, Bool.xor_self]
      exact hrec
    rw [if_neg h0]
    by_cases h1 : (l.getD k (0, 0, 0, 0, ByteArray.empty, [])).1 = 1
    · have ha : actD size S P (l.getD k (0, 0, 0, 0, ByteArray.empty, [])) = doD size S P (intT (trustD S P) (l.getD k (0, 0, 0, 0, ByteArray.empty, [])).2.2.1 (l.getD k (0, 0, 0, 0, ByteArray.empty, [])).2.2.2.2.1 (l.getD k (0, 0, 0, 0, ByteArray.empty, [])).2.2.2.1) := by
        unfold actD opT; rw [if_pos (by omega), if_neg h0, if_pos h1]
      rw [if_pos h1, r_Intend hx.a hx.b hx.c h (by omega), ← ha]
      simp only [Option.bind_some]
      rw [r_Trust hD]
      simp only [Option.bind_some, bne_self_eq_false, cond_false, beq_self_eq_true, bytes_self, Bool.and_true, Bool.xor_self]
      exact hrec
    rw [if_neg h1]
    by_cases h2 : (l.getD k (0, 0, 0, 0, ByteArray.empty, [])).1 = 2
    · have ha : actD size S P (l.getD k (0, 0, 0, 0, ByteArray.empty, [])) = doD size S P (setT (trustD S P) true) := by
        unfold actD opT; rw [if_pos (by omega), if_neg h0, if_neg h1, if_pos h2]
      rw [if_pos h2, r_Settle h (by omega), ← ha]
      simp only [Option.bind_some]
      rw [r_Trust hD]
      simp only [Option.bind_some, bne_self_eq_false, cond_false, beq_self_eq_true, bytes_self, Bool.and_true, Bool.xor_self]
      exact hrec
    rw [if_neg h2]
    by_cases h3 : (l.getD k (0, 0, 0, 0, ByteArray.empty, [])).1 = 3
    · have ha : actD size S P (l.getD k (0, 0, 0, 0, ByteArray.empty, [])) = doD size S P (setT (trustD S P) false) := by
        unfold actD opT; rw [if_pos (by omega), if_neg h0, if_neg h1, if_neg h2]
      rw [if_pos h3, r_Settle h (by omega), ← ha]
      simp only [Option.bind_some]
      rw [r_Trust hD]
      simp only [Option.bind_some, bne_self_eq_false, cond_false, beq_self_eq_true, bytes_self, Bool.and_true, Bool.xor_self]
      exact hrec
    rw [if_neg h3]
    have hout : ¬ (0 ≤ (l.getD k (0, 0, 0, 0, ByteArray.empty, [])).1 ∧ (l.getD k (0, 0, 0, 0, ByteArray.empty, [])).1 ≤ 3) := by omega
    by_cases h4 : (l.getD k (0, 0, 0, 0, ByteArray.empty, [])).1 = 4
    · have ha : actD size S P (l.getD k (0, 0, 0, 0, ByteArray.empty, [])) = (true, keepS (fun j => (clampS size ((l.getD k (0, 0, 0, 0, ByteArray.empty, [])).2.2.2.2.2.getD j 0)).toNat) 0 S P, []) := by
        unfold actD; rw [if_neg hout, if_pos h4]
      rw [ha] at hD hrec
      rw [if_pos h4, r_Crash h, ha]
      simp only [Option.bind_some]
      rw [show ([] : List ActR) = pendR [] from rfl, r_Trust hD]
      simp only [Option.bind_some, bne_self_eq_false, cond_false, beq_self_eq_true, bytes_self, Bool.and_true, Bool.xor_self]
      exact hrec
    rw [if_neg h4]
    by_cases h5 : (l.getD k (0, 0, 0, 0, ByteArray.empty, [])).1 = 5
    · have ha : actD size S P (l.getD k (0, 0, 0, 0, ByteArray.empty, [])) = (mayW size S (l.getD k (0, 0, 0, 0, ByteArray.empty, [])).2.1 (l.getD k (0, 0, 0, 0, ByteArray.empty, [])).2.2.2.2.1, S, if mayW size S (l.getD k (0, 0, 0, 0, ByteArray.empty, [])).2.1 (l.getD k (0, 0, 0, 0, ByteArray.empty, [])).2.2.2.2.1 = true then P ++ [((l.getD k (0, 0, 0, 0, ByteArray.empty, [])).2.1, padW size (l.getD k (0, 0, 0, 0, ByteArray.empty, [])).2.2.2.2.1)] else P) := by
        unfold actD; rw [if_neg hout, if_neg h4, if_pos h5]
      rw [ha] at hD hrec
      rw [if_pos h5, r_Write h, ha]
      simp only [Option.bind_some]
      rw [r_Trust hD]
      simp only [Option.bind_some, bne_self_eq_false, cond_false, beq_self_eq_true, bytes_self, Bool.and_true, Bool.xor_self]
      exact hrec
    rw [if_neg h5]
    by_cases h6 : (l.getD k (0, 0, 0, 0, ByteArray.empty, [])).1 = 6
    · have ha : actD size S P (l.getD k (0, 0, 0, 0, ByteArray.empty, [])) = (true, flushS size S P, []) := by
        unfold actD; rw [if_neg hout, if_neg h4, if_neg h5, if_pos h6]
      rw [ha] at hD hrec
      rw [if_pos h6, r_Flush h, ha]
      simp only [Option.bind_some]
      rw [show ([] : List ActR) = pendR [] from rfl, r_Trust hD]
      simp only [Option.bind_some, bne_self_eq_false, cond_false, beq_self_eq_true, bytes_self, Bool.and_true, Bool.xor_self]
      exact hrec
    rw [if_neg h6]
    have ha : actD size S P (l.getD k (0, 0, 0, 0, ByteArray.empty, [])) = (true, S, P) := by
      unfold actD; rw [if_neg hout, if_neg h4, if_neg h5, if_neg h6]
    rw [ha] at hD hrec
    rw [ha, r_Trust h]
    simp only [Option.bind_some, bne_self_eq_false, cond_false, beq_self_eq_true, bytes_self, Bool.and_true, Bool.xor_self]
    exact hrec

theorem p_StPlays {n size : Int} {l : List ActS} (hl : ∀ j, j < l.length → ActOk (l.getD j (0, 0, 0, 0, ByteArray.empty, []))) : F_law22_StorePlays (n, size, l, ()) () = some (true, ()) := by
  rw [Fe_law22_StorePlays]
  unfold tree_law22_StorePlays
  by_cases hok : okN n size
  · rw [e_made hok, r_New hok, e_fixed22]
    by_cases h2 : n < 2
    · rw [if_pos h2]
      simp only [Option.bind_some, Sum.elim_inr, Sum.elim_inl, Bool.not_true, cond_false]
      rw [decide_eq_false (show ¬ n ≥ 2 by omega), Le_law22_StorePlays_6w1]
      rfl
    · rw [if_neg h2]
      simp only [Option.bind_some, Sum.elim_inr, Sum.elim_inl, Bool.not_true, cond_false]
      have := StPlays_loop (size := size) hl (l.take 60).length 0 _ _ (new_DInv hok) (by simp) (by omega)
      rw [show ((0 : Nat) : Int) = 0 from rfl, show pendR [] = [] from rfl] at this
      rw [decide_eq_true (show n ≥ 2 by omega), this]
      rfl
  · rw [e_made_no hok, r_New_no hok, e_fixed22]
    simp only [Option.bind_some, Sum.elim_inr, Sum.elim_inl, Bool.not_true, cond_false]
    rw [Le_law22_StorePlays_6w2]
    rfl
end Go.Proofs.Ytlfedmjjjbhnpaa.S2
