/- Calls whose answers are fixed; frames. -/
import Derived.Test.YtgfanlafbjbkaaaGlaw09
import Derived.Test.YtgfanlafbjbkaaaGLSlotFrames
import Derived.Test.YtgfanlafbjbkaaaPrslot
set_option linter.unusedVariables false
set_option linter.unusedSimpArgs false
namespace Go.Proofs.Ytgfanlafbjbkaaa.S2
open Go

theorem f_hi : frameB 1 (ByteArray.mk #[104, 105]) 32 = eightB 1 ++ (ByteArray.mk #[0, 2, 104, 105]) ++ zerosB 12 ++ eightB 1 := by
  apply bs_inj
  decide +kernel

theorem e_fixed9 : F_law09_fixed () () = some (true, ()) := by
  rw [Fe_law09_fixed]
  unfold tree_law09_fixed
  have hk : okN 2 32 := by decide
  have hdi := new_DInv hk
  rw [e_Frame (by decide) (by decide), e_New hk]
  simp only [Option.bind_some, Sum.elim_inr]
  rw [e_Frame (by decide) (by decide)]
  simp only [Option.bind_some]
  have h1 : frameS 1 (ByteArray.mk #[104, 105]) 32 = (frameB 1 (ByteArray.mk #[104, 105]) 32, true) := if_pos (by decide)
  have h2 : frameS 0 (ByteArray.mk #[104, 105]) 32 = (ByteArray.empty, false) := if_neg (by decide)
  rw [h1, h2]
  simp only [Bool.not_true, cond_false]
  rw [e_Load (by simp), e_Save hdi (by simp)]
  simp only [Option.bind_some]
  have hz : ∀ t, unfS (zerosB (32 : Int).toNat) = (0, ByteArray.empty, false) := fun t => by
    have := (sect_zero (size := 32) (by decide) (by decide) t).says
    simpa using this
  have hr : ∀ i : Int, i = 0 ∨ i = 1 → readS (List.replicate (2 : Int).toNat (zerosB (32 : Int).toNat)) [] i = (zerosB (32 : Int).toNat, true) := by
    rintro i (rfl | rfl) <;> rfl
  have hn : newD (List.replicate (2 : Int).toNat (zerosB (32 : Int).toNat)) [] 0 1 = (1, 0, ByteArray.empty) := by
    unfold newD newS
    rw [hr 0 (.inl rfl), hr 1 (.inr rfl)]
    dsimp only
    rw [hz ByteArray.empty]
    simp
  have hb : begD 32 (List.replicate (2 : Int).toNat (zerosB (32 : Int).toNat)) [] 0 1 (ByteArray.mk #[97]) = some (0, frameB 1 (ByteArray.mk #[97]) 32) := by
    unfold begD
    rw [hn]
    rw [if_pos (by refine ⟨by simp, by decide, by decide⟩)]
    first | done | rfl
  rw [hb]
  simp only [Option.isSome_some, if_true, List.nil_append, Option.toList_some]
  have hf1 : flushS 32 (List.replicate (2 : Int).toNat (zerosB (32 : Int).toNat)) [(0, frameB 1 (ByteArray.mk #[97]) 32)] = [frameB 1 (ByteArray.mk #[97]) 32, zerosB 32] := by
    unfold flushS keepS keepS layW
    have hs : (frameB 1 (ByteArray.mk #[97]) 32).size = 32 := by decide +kernel
    rw [clamp_self (by decide)]
    show [_, _] = [_, _]
    congr 1
  rw [hf1, e_Load (by simp)]
  simp only [Option.bind_some]
  have hok : okF 1 (ByteArray.mk #[97]) 32 := by decide
  have hn2 : newD [frameB 1 (ByteArray.mk #[97]) 32, zerosB 32] [] 0 1 = (0, 1, ByteArray.mk #[97]) := by
    unfold newD newS
    have r0 : readS [frameB 1 (ByteArray.mk #[97]) 32, zerosB 32] [] 0 = (frameB 1 (ByteArray.mk #[97]) 32, true) := rfl
    have r1 : readS [frameB 1 (ByteArray.mk #[97]) 32, zerosB 32] [] 1 = (zerosB 32, true) := rfl
    rw [r0, r1]
    dsimp only
    rw [unf_frame hok (by decide) (by decide)]
    have := hz ByteArray.empty
    rw [show (32 : Int).toNat = 32 from rfl] at this
    rw [this]
    simp
  rw [hn2, e_Eight (by decide) (by decide)]
  simp only [Option.bind_some]
  rw [cd_t (by rw [eightB_size]; decide), e_Zeros (by decide) (by decide)]
  simp only [Option.bind_some]
  rw [cd_t (by decide +kernel), cd_t (by decide +kernel), hn, bytes_beq, f_hi, cd_t (by rfl)]
  dsimp only
  rw [c_t (by decide), c_t (beq_self_eq_true _), c_t rfl, c_t (by decide), beq_self_eq_true]

theorem p_Frames {n : Int} {t : ByteArray} {size : Int} {s : ByteArray} (h0 : 0 ≤ n) (h1 : n < 18446744073709551616) : F_law09_SlotFrames ((n, t, size, ()), s, ()) () = some (true, ()) := by
  rw [Fe_law09_SlotFrames]
  unfold tree_law09_SlotFrames
  rw [e_Frame h0 h1, e_RFrame h0 h1]
  simp only [Option.bind_some]
  rw [e_Unframe, e_RUnframe]
  simp only [Option.bind_some]
  rw [e_fixed9]
  simp only [Option.bind_some, Bool.not_true, cond_false, bytes_self, bne_self_eq_false]
  by_cases h : okF n t size
  · have hs := frameB_size h
    have hf : frameS n t size = (frameB n t size, true) := if_pos h
    rw [hf]
    simp only [Bool.not_true, cond_false]
    rw [e_Unframe]
    simp only [Option.bind_some]
    rw [unf_frame h h0 h1]
    simp [bytes_self, hs]
  · have hf : frameS n t size = (ByteArray.empty, false) := if_neg h
    rw [hf]
    rfl

end Go.Proofs.Ytgfanlafbjbkaaa.S2
