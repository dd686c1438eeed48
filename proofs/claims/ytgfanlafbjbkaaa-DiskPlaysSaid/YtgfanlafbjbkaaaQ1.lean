/- Crashes and flushes. -/
import Derived.Test.YtgfanlafbjbkaaaQ0
set_option linter.unusedVariables false
set_option linter.unusedSimpArgs false
namespace Go.Proofs.Ytgfanlafbjbkaaa.S2
open Go

/-- From 0 to the size. -/
def clampS (size x : Int) : Int := if size < (if 0 > x then 0 else x) then size else if 0 > x then 0 else x
theorem clampS_in {size x : Int} (h : 0 ≤ size) : 0 ≤ clampS size x ∧ clampS size x ≤ size := by
  unfold clampS
  by_cases h1 : 0 > x
  · simp only [if_pos h1]; split <;> omega
  · simp only [if_neg h1]; split <;> omega

theorem DInv.lay {size : Int} {safe : List ByteArray} {pend : List W2} (h : DInv size safe pend) {c : Nat} {p : W2} (hc : (c : Int) ≤ size) (hp : p ∈ pend) : DInv size (layW c safe p) pend :=
  ⟨h.lo, h.hi, by rw [layW_len]; exact h.n2, layW_sz hc h.sz (h.pd p hp), fun q hq => by rw [layW_len]; exact h.pd q hq, h.few⟩

/-- What the code does at one write, whatever says how many bytes are kept. -/
theorem lay_step {α : Type} {size x : Int} {safe : List ByteArray} {pend : List W2} (h : DInv size safe pend) {k : Nat} (hk : k < pend.length) (K : List ByteArray → Option α) :
    (cond (decide (0 ≤ if size < if 0 > x then 0 else x then size else if 0 > x then 0 else x))
     (cond (decide   ((if size < if 0 > x then 0 else x then size else if 0 > x then 0 else x) ≤     (↑(pend.getD (0 + k) (0, ByteArray.empty)).snd.size : Int)))
      (cond (decide (0 ≤ (pend.getD (0 + k) (0, ByteArray.empty)).fst))
       (cond (decide ((pend.getD (0 + k) (0, ByteArray.empty)).fst < (↑safe.length : Int)))
        (cond (decide (0 ≤ if size < if 0 > x then 0 else x then size else if 0 > x then 0 else x))
         (cond (decide   ((if size < if 0 > x then 0 else x then size else if 0 > x then 0 else x) ≤     (↑(safe.getD (0 + (pend.getD (0 + k) (0, ByteArray.empty)).fst.toNat) ByteArray.empty).size : Int)))
          (cond (decide   (((pend.getD (0 + k) (0, ByteArray.empty)).snd.extract 0 (if size < if 0 > x then 0 else x then size else if 0 > x then 0 else x).toNat).size +
             ((safe.getD (0 + (pend.getD (0 + k) (0, ByteArray.empty)).fst.toNat) ByteArray.empty).extract (if size < if 0 > x then 0 else x then size else if 0 > x then 0 else x).toNat (safe.getD (0 + (pend.getD (0 + k) (0, ByteArray.empty)).fst.toNat) ByteArray.empty).size).size ≤ 9223372036854775807))
           (cond (decide (0 ≤ (pend.getD (0 + k) (0, ByteArray.empty)).fst))
            (cond (decide ((pend.getD (0 + k) (0, ByteArray.empty)).fst < (↑safe.length : Int)))
             (K (safe.set (0 + (pend.getD (0 + k) (0, ByteArray.empty)).fst.toNat) ((pend.getD (0 + k) (0, ByteArray.empty)).snd.extract 0 (if size < if 0 > x then 0 else x then size else if 0 > x then 0 else x).toNat ++
               (safe.getD (0 + (pend.getD (0 + k) (0, ByteArray.empty)).fst.toNat) ByteArray.empty).extract (if size < if 0 > x then 0 else x then size else if 0 > x then 0 else x).toNat (safe.getD (0 + (pend.getD (0 + k) (0, ByteArray.empty)).fst.toNat) ByteArray.empty).size)))
             none) none) none) none) none) none) none) none) none) =
    K (layW (clampS size x).toNat safe pend[k]) := by
  have hp := h.pd pend[k] (List.getElem_mem hk)
  have hlo := h.lo
  have hhi := h.hi
  have hc := clampS_in (size := size) (x := x) (by omega)
  have e1 : pend.getD (0 + k) (0, ByteArray.empty) = pend[k] := by simp [List.getD, hk]
  have e2 : (if size < if 0 > x then 0 else x then size else if 0 > x then 0 else x) = clampS size x := rfl
  have hs := h.sz _ (getD_mem (l := safe) (i := pend[k].1.toNat) (d := ByteArray.empty) (by omega))
  rw [e1, e2, Nat.zero_add]
  rw [cd_t hc.1, cd_t (by omega), cd_t hp.1, cd_t hp.2.1, cd_t hc.1, cd_t (by omega), cd_t (by rw [ByteArray.size_extract, ByteArray.size_extract]; omega), cd_t hp.1, cd_t hp.2.1]
  rfl

theorem Flush_loop {size : Int} {pend : List W2} : ∀ (d k : Nat) (safe : List ByteArray), DInv size safe pend → k + d = pend.length →
    L_disk_Disk_keep_v1_1 ((), (pend.length : Int), (k : Int), ()) ((size, ()), (), safe, pend, ()) = some ((), ((size, ()), (), keepS (fun _ => (clampS size size).toNat) k safe (pend.drop k), pend, ()))
  | 0, k, safe, h, hk => by
    rw [Le_disk_Disk_keep_v1_1]
    unfold ltree_disk_Disk_keep_v1_1
    rw [cd_f (by omega), List.drop_of_length_le (by omega)]
    rfl
  | d + 1, k, safe, h, hk => by
    rw [Le_disk_Disk_keep_v1_1]
    unfold ltree_disk_Disk_keep_v1_1
    have hkl : k < pend.length := by omega
    have hf := h.few
    have hlo := h.lo
    rw [cd_t (by omega), cd_t (by omega), cd_t (by omega), Fe_disk_Disk_Flush_1]
    have e0 : (tree_disk_Disk_Flush_1 (k : Int) size safe pend some).map (fun r => (r.1, ())) = some (size, ()) := rfl
    rw [e0]
    simp only [Option.bind_some, Int.toNat_natCast]
    rw [lay_step h hkl fun z => L_disk_Disk_keep_v1_1 ((), (pend.length : Int), IntKind.i64.wrap ((k : Int) + 1), ()) ((size, ()), (), z, pend, ())]
    have hc := clampS_in (size := size) (x := size) (by omega)
    rw [i64id (by omega) (by omega), show ((k : Int) + 1) = ((k + 1 : Nat) : Int) by omega, Flush_loop d (k + 1) _ (h.lay (by omega) (List.getElem_mem hkl)) (by omega), List.drop_eq_getElem_cons hkl]
    rfl

theorem e_Flush {size : Int} {safe : List ByteArray} {pend : List W2} (h : DInv size safe pend) : F_disk_Disk_Flush () ((size, ()), safe, pend, ()) = some ((), ((size, ()), keepS (fun _ => (clampS size size).toNat) 0 safe pend, (), [], ())) := by
  rw [Fe_disk_Disk_Flush]
  unfold tree_disk_Disk_Flush
  rw [Fe_disk_Disk_keep_v1]
  unfold tree_disk_Disk_keep_v1
  have := Flush_loop pend.length 0 safe h (by omega)
  rw [show ((0 : Nat) : Int) = 0 from rfl] at this
  rw [this]
  rfl

theorem Crash_loop {size : Int} {pend : List W2} {keep : List Int} : ∀ (d k : Nat) (safe : List ByteArray), DInv size safe pend → k + d = pend.length →
    L_disk_Disk_keep_v2_1 ((), (pend.length : Int), (k : Int), ()) ((size, ()), (keep, ()), safe, pend, ()) = some ((), ((size, ()), (keep, ()), keepS (fun k => (clampS size (keep.getD k 0)).toNat) k safe (pend.drop k), pend, ()))
  | 0, k, safe, h, hk => by
    rw [Le_disk_Disk_keep_v2_1]
    unfold ltree_disk_Disk_keep_v2_1
    rw [cd_f (by omega), List.drop_of_length_le (by omega)]
    rfl
  | d + 1, k, safe, h, hk => by
    rw [Le_disk_Disk_keep_v2_1]
    unfold ltree_disk_Disk_keep_v2_1
    have hkl : k < pend.length := by omega
    have hf := h.few
    have hlo := h.lo
    rw [cd_t (by omega), cd_t (by omega), cd_t (by omega), Fe_disk_Disk_Crash_1]
    have e0 : (tree_disk_Disk_Crash_1 (k : Int) keep some).map (fun r => (r.1, ())) = some (keep.getD k 0, ()) := by
      unfold tree_disk_Disk_Crash_1
      rw [cond_decide]
      by_cases hkk : (k : Int) < keep.length
      · rw [if_pos hkk, cd_t (by omega), cd_t (by omega), Int.toNat_natCast]; rfl
      · rw [if_neg hkk]
        have : keep.getD k 0 = 0 := by rw [List.getD_eq_getElem?_getD, List.getElem?_eq_none (by omega)]; rfl
        rw [this]; rfl
    rw [e0]
    simp only [Option.bind_some, Int.toNat_natCast]
    rw [lay_step h hkl fun z => L_disk_Disk_keep_v2_1 ((), (pend.length : Int), IntKind.i64.wrap ((k : Int) + 1), ()) ((size, ()), (keep, ()), z, pend, ())]
    have hc := clampS_in (size := size) (x := keep.getD k 0) (by omega)
    rw [i64id (by omega) (by omega), show ((k : Int) + 1) = ((k + 1 : Nat) : Int) by omega, Crash_loop d (k + 1) _ (h.lay (by omega) (List.getElem_mem hkl)) (by omega), List.drop_eq_getElem_cons hkl]
    rfl

theorem e_Crash {size : Int} {safe : List ByteArray} {pend : List W2} {keep : List Int} (h : DInv size safe pend) : F_disk_Disk_Crash (keep, ()) ((size, ()), safe, pend, ()) = some ((), ((size, ()), keepS (fun k => (clampS size (keep.getD k 0)).toNat) 0 safe pend, (), [], ())) := by
  rw [Fe_disk_Disk_Crash]
  unfold tree_disk_Disk_Crash
  rw [Fe_disk_Disk_keep_v2]
  unfold tree_disk_Disk_keep_v2
  have := Crash_loop (keep := keep) pend.length 0 safe h (by omega)
  rw [show ((0 : Nat) : Int) = 0 from rfl] at this
  rw [this]
  rfl
end Go.Proofs.Ytgfanlafbjbkaaa.S2
