/- The document's slots, in plain words. -/
import Derived.Test.YtlfedmjjjbhnpaaGrslot
import Derived.Test.YtlfedmjjjbhnpaaPrdisk
import Derived.Test.YtlfedmjjjbhnpaaPslot
set_option linter.unusedVariables false
set_option linter.unusedSimpArgs false
namespace Go.Proofs.Ytlfedmjjjbhnpaa.S2
open Go

theorem Eight_step {n i : Int} {l : List Int} (h : 0 ≤ n) (h1 : n < 18446744073709551616) (hi : 0 ≤ i) (hi8 : i < 8) (hl : l.length = 8) :
    L_ref09_Eight_3 (n, i, ()) (l, ()) = L_ref09_Eight_3 (n / 256, i - 1, ()) (l.set i.toNat (n % 256), ()) := by
  rw [Le_ref09_Eight_3]
  unfold ltree_ref09_Eight_3
  rw [cd_t (by omega), cd_t hi, cd_t (by omega), Int.tdiv_eq_ediv_of_nonneg h, Int.tmod_eq_emod_of_nonneg h, u64id (by omega) (by omega), i64id (by omega) (by omega), u8w, Int.emod_emod_of_dvd n (by decide : (256 : Int) ∣ 256), Nat.zero_add]

theorem e_Eight {n : Int} (h0 : 0 ≤ n) (h1 : n < 18446744073709551616) : F_ref09_Eight (n, ()) () = some (eightB n.toNat, ()) := by
  rw [Fe_ref09_Eight]
  unfold tree_ref09_Eight
  rw [Eight_step h0 h1 (by decide) (by decide) rfl]
  rw [Eight_step (by omega) (by omega) (by decide) (by decide) rfl]
  rw [Eight_step (by omega) (by omega) (by decide) (by decide) rfl]
  rw [Eight_step (by omega) (by omega) (by decide) (by decide) rfl]
  rw [Eight_step (by omega) (by omega) (by decide) (by decide) rfl]
  rw [Eight_step (by omega) (by omega) (by decide) (by decide) rfl]
  rw [Eight_step (by omega) (by omega) (by decide) (by decide) rfl]
  rw [Eight_step (by omega) (by omega) (by decide) (by decide) rfl]
  rw [Le_ref09_Eight_3]
  unfold ltree_ref09_Eight_3
  rw [cd_f (by decide)]
  simp only [Option.bind_some, Option.map_some, Option.some.injEq, Prod.mk.injEq, and_true]
  apply bs_inj
  rw [bs_nums]
  have hb : ∀ (a : Int) (b : Nat), a.toNat % 256 = b % 256 → UInt8.ofNat a.toNat = UInt8.ofNat b := by
    intro a b hab
    apply UInt8.toNat_inj.1
    rw [UInt8.toNat_ofNat', UInt8.toNat_ofNat']
    exact hab
  show [_, _, _, _, _, _, _, _] = [_, _, _, _, _, _, _, _]
  congr 1
  · exact hb _ _ (by omega)
  congr 1
  · exact hb _ _ (by omega)
  congr 1
  · exact hb _ _ (by omega)
  congr 1
  · exact hb _ _ (by omega)
  congr 1
  · exact hb _ _ (by omega)
  congr 1
  · exact hb _ _ (by omega)
  congr 1
  · exact hb _ _ (by omega)
  congr 1
  · exact hb _ _ (by omega)

theorem len_nums' {k : Nat} (h : k ≤ 494) : Go.strOfNums ([] ++ [IntKind.u8.wrap (IntKind.i64.wrap ((k : Int).tdiv 256))] ++ [IntKind.u8.wrap ((k : Int).tmod 256)]) = lenB k := by
  apply bs_inj
  rw [bs_nums]
  have hb : ∀ (a : Int) (b : Nat), a.toNat % 256 = b % 256 → UInt8.ofNat a.toNat = UInt8.ofNat b := by
    intro a b hab
    apply UInt8.toNat_inj.1
    rw [UInt8.toNat_ofNat', UInt8.toNat_ofNat']
    exact hab
  show [_, _] = [_, _]
  rw [u8w, u8w, Int.tdiv_eq_ediv_of_nonneg (by omega), Int.tmod_eq_emod_of_nonneg (by omega), i64id (by omega) (by omega)]
  congr 1
  · exact hb _ _ (by omega)
  congr 1
  · exact hb _ _ (by omega)

theorem e_RFrame {n : Int} {t : ByteArray} {size : Int} (h0 : 0 ≤ n) (h1 : n < 18446744073709551616) : F_ref09_Frame (n, t, size, ()) () = some (((frameS n t size).1, (frameS n t size).2, ()), ()) := by
  rw [Fe_ref09_Frame]
  unfold tree_ref09_Frame frameS
  simp only [cond_decide, cond_eqi]
  by_cases hs1 : size < 32
  · rw [if_pos hs1, if_neg (fun h => by have := h.1; omega)]
  · by_cases hs2 : size > 512
    · rw [if_neg hs1, if_pos hs2, if_neg (fun h => by have := h.2.1; omega)]
    · rw [if_neg hs1, if_neg hs2]
      by_cases hn : n = 0
      · rw [if_pos hn, if_neg (fun h => h.2.2.1 hn)]
      · rw [if_neg hn, i64id (n := size - 18) (by omega) (by omega)]
        by_cases ht : (t.size : Int) > size - 18
        · rw [if_pos ht, if_neg (fun h => by have := h.2.2.2; omega)]
        · have hk : t.size ≤ 494 := by omega
          have hz : (zerosB (size - 18 - t.size).toNat).size ≤ 512 := by rw [zerosB_size]; omega
          rw [if_neg ht, e_Eight h0 h1, len_nums' hk, i64id (n := size - 18 - (t.size : Int)) (by omega) (by omega), e_Zeros (by omega) (by omega)]
          simp only [Option.bind_some]
          rw [if_pos (by rw [eightB_size, lenB_size]; omega), if_pos (by rw [ByteArray.size_append, eightB_size, lenB_size]; omega), if_pos (by simp only [ByteArray.size_append, eightB_size, lenB_size]; omega), if_pos (by simp only [ByteArray.size_append, eightB_size, lenB_size]; omega), if_pos ⟨by omega, by omega, hn, by omega⟩]
          rfl

theorem byte256 {n b : Nat} (hn : n < 18446744073709551616 / 256) (hb : b < 256) : IntKind.u64.wrap (IntKind.u64.wrap (256 * (n : Int)) + IntKind.u64.wrap (b : Int)) = ((n * 256 + b : Nat) : Int) := by
  rw [u64id (n := 256 * (n : Int)) (by omega) (by omega), u64id (n := (b : Int)) (by omega) (by omega), u64id (by omega) (by omega)]
  omega

theorem RUnframe_loop (s : ByteArray) (hs : 8 ≤ s.size) : ∀ (d i : Nat), i + d = 8 →
    L_ref09_Unframe_5 (s, (nb ((bs s).take i) : Int), (i : Int), ()) () = some ((s, (nb ((bs s).take 8) : Int), ()), ())
  | 0, i, h => by
    rw [Le_ref09_Unframe_5]
    unfold ltree_ref09_Unframe_5
    rw [cd_f (by omega), show i = 8 by omega]
  | d + 1, i, h => by
    rw [Le_ref09_Unframe_5]
    unfold ltree_ref09_Unframe_5
    have hi : i < (bs s).length := by rw [bs_len]; omega
    have hlt := nb_lt i ((bs s).take i) (by rw [List.length_take]; omega)
    have hp : 256 ^ i ≤ 256 ^ 7 := Nat.pow_le_pow_right (by decide) (by omega)
    have h7 : (256 : Nat) ^ 7 = 72057594037927936 := by decide
    have hb : ((bs s).getD i 0).toNat < 256 := UInt8.toNat_lt _
    rw [cd_t (by omega), cd_t (by omega), cd_t (by omega), strAt_bs, byte256 (by omega) hb, i64id (by omega) (by omega), show ((i : Int) + 1) = ((i + 1 : Nat) : Int) by omega]
    have e : nb ((bs s).take i) * 256 + ((bs s).getD i 0).toNat = nb ((bs s).take (i + 1)) := by
      rw [List.take_succ_eq_append_getElem hi, nb_snoc, List.getD_eq_getElem?_getD, List.getElem?_eq_getElem hi, Option.getD_some]
    rw [e]
    exact RUnframe_loop s hs d (i + 1) (by omega)

theorem e_RUnframe {s : ByteArray} : F_ref09_Unframe (s, ()) () = some (((unfS s).1, (unfS s).2.1, (unfS s).2.2, ()), ()) := by
  rw [Fe_ref09_Unframe]
  unfold tree_ref09_Unframe unfS
  rw [cond_decide]
  by_cases h1 : (s.size : Int) < 32
  · rw [if_pos h1, if_neg (fun h => by have := h.1; omega)]
  · rw [if_neg h1, cond_decide]
    by_cases h2 : (s.size : Int) > 512
    · rw [if_pos h2, if_neg (fun h => by have := h.2.1; omega)]
    · have b8 : bs (s.extract 0 8) = (bs s).take 8 := by rw [bs_extract, List.drop_zero]
      have bl : bs (s.extract (s.size - 8) s.size) = (bs s).drop (s.size - 8) := by
        rw [bs_extract, List.take_of_length_le]
        rw [List.length_drop, bs_len]; omega
      have e8 : ((s.size : Int) - 8).toNat = s.size - 8 := by omega
      rw [if_neg h2, cd_t (by omega), i64id (n := (s.size : Int) - 8) (by omega) (by omega), cd_t (by omega), cd_t (by omega), e8, bytes_beq]
      by_cases he : s.extract 0 8 = s.extract (s.size - 8) s.size
      · have he' : (bs s).take 8 = (bs s).drop (s.size - 8) := by rw [← b8, ← bl, he]
        rw [decide_eq_true he]
        simp only [Bool.not_true, cond_false]
        rw [cd_t (by omega), e_Zeros (by decide) (by decide)]
        simp only [Option.bind_some]
        rw [bytes_beq, cond_decide]
        have hz : s.extract 0 8 = zerosB (8 : Int).toNat ↔ nb ((bs s).take 8) = 0 := by
          rw [nb_zero 8 _ (by rw [List.length_take, bs_len]; omega), ← b8]
          exact ⟨fun h => by rw [h]; rfl, fun h => bs_inj (by rw [h]; rfl)⟩
        by_cases hn : nb ((bs s).take 8) = 0
        · rw [if_pos (hz.2 hn), if_neg (fun h => h.2.2.2.1 hn)]
        · rw [if_neg (fun h => hn (hz.1 h))]
          have hlp := RUnframe_loop s (by omega) 8 0 (by omega)
          rw [List.take_zero, show nb [] = 0 from rfl, show ((0 : Nat) : Int) = 0 from rfl] at hlp
          rw [hlp]
          simp only [Option.bind_some]
          have hg := getD_two (bs s) (by rw [bs_len]; omega)
          have g8 : ((bs s).getD 8 0).toNat < 256 := UInt8.toNat_lt _
          have g9 : ((bs s).getD 9 0).toNat < 256 := UInt8.toNat_lt _
          have s8 : strAt s 8 = ((bs s).getD 8 0).toNat := rfl
          have s9 : strAt s 9 = ((bs s).getD 9 0).toNat := rfl
          rw [cd_t (by omega), cd_t (by omega), s8, s9, i64id (n := (((bs s).getD 8 0).toNat : Int)) (by omega) (by omega), i64id (n := (((bs s).getD 9 0).toNat : Int)) (by omega) (by omega), i64id (n := 256 * (((bs s).getD 8 0).toNat : Int)) (by omega) (by omega), i64id (n := 256 * (((bs s).getD 8 0).toNat : Int) + (((bs s).getD 9 0).toNat : Int)) (by omega) (by omega),
            i64id (n := (s.size : Int) - 18) (by omega) (by omega), show 256 * (((bs s).getD 8 0).toNat : Int) + (((bs s).getD 9 0).toNat : Int) = (nb (((bs s).drop 8).take 2) : Int) by omega, cond_decide]
          by_cases hl : (nb (((bs s).drop 8).take 2) : Int) > (s.size : Int) - 18
          · rw [if_pos hl, if_neg (fun h => by have := h.2.2.2.2; omega)]
          · rw [if_neg hl, i64id (n := 10 + (nb (((bs s).drop 8).take 2) : Int)) (by omega) (by omega), cd_t (by omega), cd_t (by omega), if_pos ⟨by omega, by omega, he', hn, by omega⟩, show (10 + (nb (((bs s).drop 8).take 2) : Int)).toNat = 10 + nb (((bs s).drop 8).take 2) by omega]
      · rw [decide_eq_false he, if_neg (fun h => he (bs_inj (by rw [b8, bl]; exact h.2.2.1)))]
        rfl

/-- Which is the newest: 0, 1, 2. -/
def rnewS (s t : ByteArray) : Int × Int × ByteArray :=
  if (unfS s).2.2 = true ∧ ((unfS t).2.2 = false ∨ (unfS s).1 ≥ (unfS t).1) then (1, (unfS s).1, (unfS s).2.1)
  else if (unfS t).2.2 = true then (2, (unfS t).1, (unfS t).2.1) else (0, 0, ByteArray.empty)

theorem rnew_eq {a b : Int} (h : a ≠ b) (s t : ByteArray) : (rnewS s t).2 = (newS a b s t).2 ∧ ((rnewS s t).1 = 1 ↔ (newS a b s t).1 = a) := by
  unfold rnewS newS
  cases h1 : (unfS t).2.2 <;> cases h2 : (unfS s).2.2 <;> simp [Ne.symm h]
  by_cases hlt : (unfS s).1 < (unfS t).1
  · rw [if_neg (by omega), if_pos hlt]
    simp [Ne.symm h]
  · rw [if_pos (by omega), if_neg hlt]
    simp

theorem e_RNewest {s t : ByteArray} : F_ref09_Newest (s, t, ()) () = some (((rnewS s t).1, (rnewS s t).2.1, (rnewS s t).2.2, ()), ()) := by
  rw [Fe_ref09_Newest]
  unfold tree_ref09_Newest rnewS
  rw [e_RUnframe, e_RUnframe]
  simp only [Option.bind_some]
  cases h1 : (unfS s).2.2 <;> cases h2 : (unfS t).2.2 <;> simp [cond_decide]
  split <;> simp_all

section

variable {size : Int} {S : List ByteArray} {P : List W2}

theorem read_none {a : Int} (hd : DInv size S P) (h : ¬ (0 ≤ a ∧ a < S.length)) : readS S P a = (ByteArray.empty, false) := by
  unfold readS
  rw [lastW_out (size := size) P hd.pd h]
  unfold safeS
  rw [if_neg h]

theorem read_some {a : Int} (h : 0 ≤ a ∧ a < S.length) : (readS S P a).2 = true := by
  unfold readS
  cases lastW P a with
  | some t => rfl
  | none => dsimp only; unfold safeS; rw [if_pos h]

theorem same_new {a : Int} (s : ByteArray) : (newS a a s s).2 = (rnewS s s).2 := by
  unfold newS rnewS
  cases h1 : (unfS s).2.2 <;> simp

theorem r_Load {a b : Int} (hd : DInv size S P) : F_ref09_Load (a, b, ()) ((size, ()), S, pendR P, ()) = some (((newD S P a b).2.1, (newD S P a b).2.2, ()), ()) := by
  rw [Fe_ref09_Load]
  unfold tree_ref09_Load
  rw [r_Read hd, r_Read hd]
  simp only [Option.bind_some]
  rw [e_RNewest]
  simp only [Option.bind_some, Option.map_some]
  unfold newD
  by_cases hab : a = b
  · subst hab
    rw [← same_new (a := a)]
  · rw [(rnew_eq hab _ _).1]

theorem r_Begin {a b : Int} {t : ByteArray} (hd : DInv size S P) : F_ref09_Begin (a, b, t, ()) ((size, ()), S, pendR P, ()) =
    some ((begD size S P a b t).isSome, ((size, ()), S, (), pendR (P ++ (begD size S P a b t).toList), ())) := by
  rw [Fe_ref09_Begin]
  unfold tree_ref09_Begin begD
  rw [r_Read hd, r_Read hd]
  simp only [Option.bind_some]
  by_cases ha : 0 ≤ a ∧ a < S.length
  · rw [read_some ha]
    simp only [Bool.not_true, cond_false]
    by_cases hb : 0 ≤ b ∧ b < S.length
    · rw [read_some hb]
      simp only [Bool.not_true, cond_false, cond_eqi]
      by_cases hab : a = b
      · rw [if_pos hab, if_neg (fun h => h.1.1 hab)]; simp
      · rw [if_neg hab, e_RNewest]
        simp only [Option.bind_some]
        have he := rnew_eq hab (readS S P a).1 (readS S P b).1
        have hlt := newS_lt a b (readS S P a).1 (readS S P b).1
        have e1 : (rnewS (readS S P a).1 (readS S P b).1).2.1 = (newD S P a b).2.1 := by rw [he.1]; rfl
        rw [e1]
        have hw := he.2
        have e2 : newS a b (readS S P a).1 (readS S P b).1 = newD S P a b := rfl
        rw [e2] at hlt hw
        by_cases hm : (newD S P a b).2.1 = 18446744073709551615
        · have hall : ¬ ((a ≠ b ∧ 0 ≤ a ∧ 0 ≤ b ∧ a < S.length ∧ b < S.length) ∧ (newD S P a b).2.1 ≠ 18446744073709551615 ∧ okF ((newD S P a b).2.1 + 1) t size) := fun h => h.2.1 hm
          rw [if_neg hall, hm]
          have ew : IntKind.u64.wrap ((18446744073709551615 : Int) + 1) = 0 := by decide
          rw [ew, e_RFrame (by decide) (by decide)]
          have hf : frameS 0 t size = (ByteArray.empty, false) := if_neg (fun h => h.2.2.1 rfl)
          rw [hf]
          simp
        · rw [u64id (n := (newD S P a b).2.1 + 1) (by omega) (by omega), e_RFrame (by omega) (by omega)]
          simp only [Option.bind_some]
          by_cases hok : okF ((newD S P a b).2.1 + 1) t size
          · have hall : (a ≠ b ∧ 0 ≤ a ∧ 0 ≤ b ∧ a < S.length ∧ b < S.length) ∧ (newD S P a b).2.1 ≠ 18446744073709551615 ∧ okF ((newD S P a b).2.1 + 1) t size := ⟨⟨hab, by omega, by omega, by omega, by omega⟩, hm, hok⟩
            have hsz := frameB_size hok
            have hf : frameS ((newD S P a b).2.1 + 1) t size = (frameB ((newD S P a b).2.1 + 1) t size, true) := if_pos hok
            rw [if_pos hall, hf]
            simp only [Bool.not_true, cond_false]
            by_cases h8 : (newD S P a b).1 = a
            · rw [if_pos (hw.2 h8)]
              simp only [if_pos h8]
              rw [r_Write hd]
              have hm : mayW size S b (frameB ((newD S P a b).2.1 + 1) t size) = true := by unfold mayW; rw [decide_eq_true]; exact ⟨⟨by omega, by omega⟩, by omega⟩
              rw [hm, pad_full hsz]
              rfl
            · rw [if_neg (fun h => h8 (hw.1 h))]
              simp only [if_neg h8]
              rw [r_Write hd]
              have hm : mayW size S a (frameB ((newD S P a b).2.1 + 1) t size) = true := by unfold mayW; rw [decide_eq_true]; exact ⟨⟨by omega, by omega⟩, by omega⟩
              rw [hm, pad_full hsz]
              rfl
          · have hall : ¬ ((a ≠ b ∧ 0 ≤ a ∧ 0 ≤ b ∧ a < S.length ∧ b < S.length) ∧ (newD S P a b).2.1 ≠ 18446744073709551615 ∧ okF ((newD S P a b).2.1 + 1) t size) := fun h => hok h.2.2
            have hf : frameS ((newD S P a b).2.1 + 1) t size = (ByteArray.empty, false) := if_neg hok
            rw [if_neg hall, hf]
            simp
    · rw [read_none hd hb, if_neg (fun h => hb ⟨by omega, by omega⟩)]; simp
  · rw [read_none hd ha, if_neg (fun h => ha ⟨by omega, by omega⟩)]; simp

end

end Go.Proofs.Ytlfedmjjjbhnpaa.S2
