/-
  A log that is opened on an empty disk (under way).
-/
import Derived.Test.YtlfedmjjjbhnpaaPwinv
set_option linter.unusedVariables false
set_option linter.unusedSimpArgs false
namespace Go.Proofs.Ytlfedmjjjbhnpaa.S2
open Go

/-- The empty disk of 8 sectors of 48 bytes. -/
def zero8 : List ByteArray := List.replicate (8 : Int).toNat (zerosB (48 : Int).toNat)

theorem unf_zero48 : unfS (zerosB 48) = (0, ByteArray.empty, false) := by
  unfold unfS
  rw [if_neg]
  intro h
  unfold okU at h
  revert h
  decide

theorem unf_empty : unfS ByteArray.empty = (0, ByteArray.empty, false) := by
  unfold unfS
  rw [if_neg]
  intro h
  unfold okU at h
  revert h
  decide

theorem read_zero8 (i : Int) : (unfS (readS zero8 [] i).1) = (0, ByteArray.empty, false) := by
  have : (readS zero8 [] i).1 = zerosB 48 ∨ (readS zero8 [] i).1 = ByteArray.empty := by
    show (safeS zero8 i).1 = _ ∨ (safeS zero8 i).1 = _
    unfold safeS
    split
    · rename_i h
      left
      have hm : zero8.getD i.toNat ByteArray.empty ∈ zero8 := getD_mem (by omega)
      exact (List.mem_replicate.1 hm).2
    · right; rfl
  rcases this with h | h <;> rw [h]
  · exact unf_zero48
  · exact unf_empty

theorem great_zero8 : ∀ (d k : Nat), greatS 0 zero8 [] d k 0 = 0
  | 0, k => rfl
  | d + 1, k => by
    unfold greatS
    rw [read_zero8]
    exact great_zero8 d (k + 1)

theorem stand_zero8 (base mark : Int) : ∀ (d : Nat), standL 0 8 base mark zero8 [] d [] = []
  | 0 => rfl
  | d + 1 => by
    unfold standL standS
    simp only [read_zero8]
    rfl

theorem open_zero8 : F_wal_Open (0, 8, 0, 0, ()) ((48, ()), zero8, [], ()) = some (.inr ((), ((48, ()), zero8, [], (0, 8, 0, 0, 1, ()), [], ()))) := by
  rw [e_wOpen (by simp) (by decide) (by decide) (by decide) (by rw [great_zero8]; decide), if_pos (by decide), great_zero8, stand_zero8]
  rfl

theorem winv_zero8 : WInv 0 0 0 1 [] zero8 [] where
  l := ⟨by decide, by decide, by decide, by decide, by decide⟩
  d := new_DInv (n := 8) (size := 48) ⟨by decide, by decide, by decide, by decide⟩
  s8 := rfl
  p := by decide
  n1 := by decide
  nc := by decide
  m0 := by decide
  mc := by decide
  hm := fun p hp => by cases hp
  c1 := by decide
end Go.Proofs.Ytlfedmjjjbhnpaa.S2
