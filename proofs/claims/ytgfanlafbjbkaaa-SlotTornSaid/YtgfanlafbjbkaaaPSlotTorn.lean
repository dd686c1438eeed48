/- A frame that is cut short. -/
import Derived.Test.YtgfanlafbjbkaaaGLSlotTorn
import Derived.Test.YtgfanlafbjbkaaaP09
set_option linter.unusedVariables false
set_option linter.unusedSimpArgs false
namespace Go.Proofs.Ytgfanlafbjbkaaa.S2
open Go

theorem torn_fin {n m : Int} {old text : ByteArray} {u : Int × ByteArray × Bool} (h : u.2.2 = false ∨ (u = (n, old, true) ∧ n ≠ 0) ∨ u = (m, text, true)) :
    cond (!u.2.2) (some (true, ())) (cond (u.1 == n) (cond (u.2.1.toList == old.toList) (cond (n != 0) (some (true, ())) (cond (u.1 == m) (some (u.2.1.toList == text.toList, ())) (some (false, ()))))
      (cond (u.1 == m) (some (u.2.1.toList == text.toList, ())) (some (false, ())))) (cond (u.1 == m) (some (u.2.1.toList == text.toList, ())) (some (false, ())))) = some (true, ()) := by
  rcases h with h | ⟨h, hn⟩ | h
  · rw [h]; rfl
  · subst h
    simp [hn, bytes_self, cond_nei]
  · subst h
    simp only [Bool.not_true, cond_false, bytes_self, beq_self_eq_true, cond_true, cond_eqi, cond_nei]
    split
    · cases text.toList == old.toList
      · rfl
      · simp only [cond_true]; split <;> rfl
    · rfl

theorem p_Torn9 {n m size size2 cut : Int} {old text : ByteArray} (h0 : 0 ≤ n) (h1 : n < 18446744073709551616) (m0 : 0 ≤ m) (m1 : m < 18446744073709551616) :
    F_law09_SlotTorn ((n, old, size, ()), (m, text, size2, ()), cut, ()) () = some (true, ()) := by
  rw [Fe_law09_SlotTorn]
  unfold tree_law09_SlotTorn
  rw [e_Frame h0 h1]
  simp only [Option.bind_some, cond_eqi, cond_nei, cond_decide]
  by_cases hn : n = 0
  · have hno : frameS n old size = (ByteArray.empty, false) := if_neg (fun h => h.2.2.1 hn)
    rw [if_pos hn, hno]
    by_cases hs : size ≥ 32
    · rw [if_pos hs]
      by_cases hs2 : size ≤ 512
      · rw [if_pos hs2, e_Zeros (by omega) (by omega)]
        simp only [Option.bind_some]
        rw [e_Frame m0 m1, e_fixed9]
        simp only [Option.bind_some, Bool.not_true, cond_false]
        by_cases hm : okF m text size
        · have hf : frameS m text size = (frameB m text size, true) := if_pos hm
          have hsb := frameB_size hm
          have hsa : ((zerosB size.toNat).size : Int) = size := by rw [zerosB_size]; omega
          rw [hf]
          simp only [Bool.not_true, cond_false]
          by_cases he : n = m
          · rw [if_pos he]
          · rw [if_neg he]
            by_cases hc : cut < 0
            · rw [if_pos hc]
            · rw [if_neg hc]
              by_cases hc2 : cut > size
              · rw [if_pos hc2]
              · rw [if_neg hc2, if_pos hsa, if_pos hsb, if_pos (by omega), if_pos (by omega), if_pos (by omega), if_pos (by omega), if_pos (by rw [ByteArray.size_extract, ByteArray.size_extract]; omega), e_Unframe]
                simp only [Option.bind_some]
                have hsay := torn_says (sect_zero hs hs2 old) (sect_frame hm m0 m1) hm.2.2.1 (by omega) (c := cut.toNat) (by omega)
                have := torn_fin hsay
                rw [hn]
                simpa only [cond_eqi, cond_nei] using this
        · have hf : frameS m text size = (ByteArray.empty, false) := if_neg hm
          rw [hf]; rfl
      · rw [if_neg hs2, e_Frame m0 m1, e_fixed9]; rfl
    · rw [if_neg hs, e_Frame m0 m1, e_fixed9]; rfl
  · rw [if_neg hn, e_Frame m0 m1, e_fixed9]
    simp only [Option.bind_some, Bool.not_true, cond_false]
    by_cases ho : okF n old size
    · have hfo : frameS n old size = (frameB n old size, true) := if_pos ho
      have hsa := frameB_size ho
      rw [hfo]
      simp only [Bool.not_true, cond_false]
      by_cases hm : okF m text size
      · have hf : frameS m text size = (frameB m text size, true) := if_pos hm
        have hsb := frameB_size hm
        rw [hf]
        simp only [Bool.not_true, cond_false]
        by_cases he : n = m
        · rw [if_pos he]
        · rw [if_neg he]
          by_cases hc : cut < 0
          · rw [if_pos hc]
          · rw [if_neg hc]
            by_cases hc2 : cut > size
            · rw [if_pos hc2]
            · have := ho.2.1
              rw [if_neg hc2, if_pos hsa, if_pos hsb, if_pos (by omega), if_pos (by omega), if_pos (by omega), if_pos (by omega), if_pos (by rw [ByteArray.size_extract, ByteArray.size_extract]; omega), e_Unframe]
              simp only [Option.bind_some]
              have hsay := torn_says (sect_frame ho h0 h1) (sect_frame hm m0 m1) hm.2.2.1 he (c := cut.toNat) (by omega)
              have := torn_fin hsay
              simpa only [cond_eqi, cond_nei] using this
      · have hf : frameS m text size = (ByteArray.empty, false) := if_neg hm
        rw [hf]; rfl
    · have hf : frameS n old size = (ByteArray.empty, false) := if_neg ho
      rw [hf]; rfl

end Go.Proofs.Ytgfanlafbjbkaaa.S2
