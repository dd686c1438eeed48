/- A disk, in plain words. -/
import Derived.Test.YtlfedmjjjbhnpaaGdisk
import Derived.Lib.Repeat
import Derived.WideShapes
import Derived.WalkKit
set_option linter.unusedVariables false
set_option linter.unusedSimpArgs false
namespace Go.Proofs.Ytlfedmjjjbhnpaa.S2
open Go

theorem u64w (n : Int) : IntKind.u64.wrap n = n % 18446744073709551616 := by
  simp [IntKind.wrap, IntKind.bits, IntKind.signed]

theorem i64w (n : Int) : IntKind.i64.wrap n = if 9223372036854775808 ≤ n % 18446744073709551616 then n % 18446744073709551616 - 18446744073709551616 else n % 18446744073709551616 := by
  simp [IntKind.wrap, IntKind.bits, IntKind.signed]

theorem u64id {n : Int} (h0 : 0 ≤ n) (h1 : n < 18446744073709551616) : IntKind.u64.wrap n = n := by rw [u64w]; omega

theorem i64id {n : Int} (h0 : -9223372036854775808 ≤ n) (h1 : n < 9223372036854775808) : IntKind.i64.wrap n = n := by rw [i64w]; split <;> omega

theorem c_t {α : Type} {b : Bool} {x y : α} (h : b = true) : cond b x y = x := by rw [h]; rfl

theorem c_f {α : Type} {b : Bool} {x y : α} (h : b = false) : cond b x y = y := by rw [h]; rfl

theorem cd_t {α : Type} {p : Prop} [Decidable p] {x y : α} (h : p) : cond (decide p) x y = x := c_t (decide_eq_true h)

theorem cd_f {α : Type} {p : Prop} [Decidable p] {x y : α} (h : ¬ p) : cond (decide p) x y = y := c_f (decide_eq_false h)

theorem cond_decide {α : Type} (p : Prop) [Decidable p] (x y : α) : cond (decide p) x y = if p then x else y := by by_cases h : p <;> simp [h]

theorem cond_eqi {α : Type} (a b : Int) (x y : α) : cond (a == b) x y = if a = b then x else y := by
  by_cases h : a = b
  · simp [h]
  · rw [beq_false_of_ne h, if_neg h]; rfl

theorem cond_nei {α : Type} (a b : Int) (x y : α) : cond (a != b) x y = if a = b then y else x := by
  by_cases h : a = b
  · simp [h]
  · rw [bne_iff_ne.2 h, if_neg h]; rfl

theorem bytes_beq (a b : ByteArray) : (a.toList == b.toList) = decide (a = b) := by
  rw [ByteArray.toList_eq, ByteArray.toList_eq, Bool.eq_iff_iff, beq_iff_eq, decide_eq_true_eq]
  exact ⟨fun h => WideShapes.bytes_inj h, fun h => by rw [h]⟩

abbrev W2 := Int × ByteArray

/-- So many bytes 0. -/
def zerosB (n : Nat) : ByteArray := ⟨(List.replicate n 0).toArray⟩

theorem zerosB_size (n : Nat) : (zerosB n).size = n := by simp [zerosB, ByteArray.size]

theorem e_Repeat0 {n : Int} (h : 0 ≤ n) (h1 : n ≤ 140737488355328) : F_strings_Repeat ((ByteArray.mk #[0]), n, ()) () = some (zerosB n.toNat, ()) := by
  unfold F_strings_Repeat
  have hs : (ByteArray.mk #[0]).size = 1 := rfl
  rw [cd_t ⟨h, (by dsimp only; omega), (by dsimp only; rw [hs]; omega)⟩]
  have := Go.Lib.repeatL_replicate 0 1 n.toNat
  rw [Nat.mul_one] at this
  have e : Go.Lib.repeatL (ByteArray.mk #[0]).data.toList n.toNat = List.replicate n.toNat 0 := this
  dsimp only
  rw [e]
  rfl

theorem e_Zeros {n : Int} (h : 0 ≤ n) (h1 : n ≤ 140737488355328) : F_ref08_Zeros (n, ()) () = some (zerosB n.toNat, ()) := by
  rw [Fe_ref08_Zeros]
  unfold tree_ref08_Zeros
  rw [cd_t h, cd_t (by omega), cd_t (by omega)]
  have : Go.strOfNums (List.replicate n.toNat 0) = zerosB n.toNat := by
    unfold Go.strOfNums zerosB
    rw [List.map_replicate]
    rfl
  rw [this]

/-- A disk that may be. -/
structure DInv (size : Int) (safe : List ByteArray) (pend : List W2) : Prop where
  lo : 32 ≤ size
  hi : size ≤ 512
  n2 : safe.length ≤ 256
  sz : ∀ s, s ∈ safe → (s.size : Int) = size
  pd : ∀ p, p ∈ pend → 0 ≤ p.1 ∧ p.1 < safe.length ∧ (p.2.size : Int) = size
  few : pend.length ≤ 1000000

theorem getD_mem {α : Type} {l : List α} {i : Nat} {d : α} (h : i < l.length) : l.getD i d ∈ l := by
  rw [List.getD_eq_getElem?_getD, List.getElem?_eq_getElem h]
  exact List.getElem_mem h

theorem e_has {size at_ : Int} {safe : List ByteArray} {pend : List W2} : F_disk_Disk_has (at_, ()) ((size, ()), safe, pend, ()) = some (decide (0 ≤ at_ ∧ at_ < safe.length), ()) := by
  rw [Fe_disk_Disk_has]
  unfold tree_disk_Disk_has
  rw [cond_decide]
  by_cases h : at_ ≥ 0
  · rw [if_pos h]
    have : decide (at_ < (safe.length : Int)) = decide (0 ≤ at_ ∧ at_ < safe.length) := by rw [Bool.eq_iff_iff]; simp; omega
    rw [this]; rfl
  · rw [if_neg h, decide_eq_false (by omega)]; rfl

def safeS (safe : List ByteArray) (at_ : Int) : ByteArray × Bool := if 0 ≤ at_ ∧ at_ < safe.length then (safe.getD at_.toNat ByteArray.empty, true) else (ByteArray.empty, false)

theorem e_Safe {size at_ : Int} {safe : List ByteArray} {pend : List W2} : F_disk_Disk_Safe (at_, ()) ((size, ()), safe, pend, ()) = some (((safeS safe at_).1, (safeS safe at_).2, ()), ()) := by
  rw [Fe_disk_Disk_Safe]
  unfold tree_disk_Disk_Safe safeS
  rw [e_has]
  simp only [Option.bind_some]
  by_cases h : 0 ≤ at_ ∧ at_ < safe.length
  · rw [decide_eq_true h, if_pos h]
    simp only [Bool.not_true, cond_false]
    rw [cd_t h.1, cd_t h.2, Nat.zero_add]; rfl
  · rw [decide_eq_false h, if_neg h]; rfl

/-- The text of the last write to a sector. -/
def lastW (pend : List W2) (at_ : Int) : Option ByteArray := (pend.reverse.find? fun p => p.1 == at_).map (·.2)

def readS (safe : List ByteArray) (pend : List W2) (at_ : Int) : ByteArray × Bool :=
  match lastW pend at_ with
  | some t => (t, true)
  | none => safeS safe at_

theorem lastW_snoc (pend : List W2) (p : W2) (at_ : Int) : lastW (pend ++ [p]) at_ = if p.1 = at_ then some p.2 else lastW pend at_ := by
  unfold lastW
  rw [List.reverse_append, List.reverse_singleton, List.singleton_append, List.find?_cons]
  by_cases h : p.1 = at_
  · simp [h]
  · simp [h, beq_false_of_ne h]

theorem Read_loop (size at_ : Int) (safe : List ByteArray) (pend : List W2) (hl : pend.length ≤ 1000000) : ∀ (k : Nat), k ≤ pend.length →
    L_disk_Disk_Read_2 (at_, (k : Int) - 1, ()) ((size, ()), safe, pend, ()) = match lastW (pend.take k) at_ with
      | some t => some (.inl ((at_, t, true, ()), ((size, ()), safe, pend, ())))
      | none => some (.inr ((at_, ()), ((size, ()), safe, pend, ())))
  | 0, h => by
    rw [Le_disk_Disk_Read_2]
    unfold ltree_disk_Disk_Read_2
    rw [cd_f (by omega)]
    rfl
  | k + 1, h => by
    rw [Le_disk_Disk_Read_2]
    unfold ltree_disk_Disk_Read_2
    have hk : k < pend.length := by omega
    have e0 : (((k + 1 : Nat) : Int) - 1) = k := by omega
    rw [e0, cd_t (by omega), cd_t (by omega), cd_t (by omega), cond_eqi, cd_t (by omega), cd_t (by omega), i64id (by omega) (by omega), Read_loop size at_ safe pend hl k (by omega), Nat.zero_add, Int.toNat_natCast]
    have e1 : pend.getD k (0, ByteArray.empty) = pend[k] := by simp [List.getD, hk]
    have e2 : pend.take (k + 1) = pend.take k ++ [pend[k]] := by rw [List.take_succ_eq_append_getElem hk]
    rw [e1, e2, lastW_snoc]
    by_cases h1 : pend[k].1 = at_
    · rw [if_pos h1, if_pos h1]
    · rw [if_neg h1, if_neg h1]

theorem e_Read {size at_ : Int} {safe : List ByteArray} {pend : List W2} (hl : pend.length ≤ 1000000) : F_disk_Disk_Read (at_, ()) ((size, ()), safe, pend, ()) = some (((readS safe pend at_).1, (readS safe pend at_).2, ()), ()) := by
  rw [Fe_disk_Disk_Read]
  unfold tree_disk_Disk_Read readS
  rw [i64id (by omega) (by omega), Read_loop size at_ safe pend hl pend.length (Nat.le_refl _), List.take_length]
  cases lastW pend at_ with
  | some t => rfl
  | none =>
    simp only [Option.bind_some, Sum.elim_inr]
    rw [e_Safe]
    rfl

theorem e_Sectors {size : Int} {safe : List ByteArray} {pend : List W2} : F_disk_Disk_Sectors () ((size, ()), safe, pend, ()) = some ((safe.length : Int), ()) := by
  rw [Fe_disk_Disk_Sectors]; rfl

theorem e_Size {size : Int} {safe : List ByteArray} {pend : List W2} : F_disk_Disk_Size () ((size, ()), safe, pend, ()) = some (size, ()) := by
  rw [Fe_disk_Disk_Size]; rfl

theorem e_Pending {size : Int} {safe : List ByteArray} {pend : List W2} : F_disk_Disk_Pending () ((size, ()), safe, pend, ()) = some ((pend.length : Int), ()) := by
  rw [Fe_disk_Disk_Pending]; rfl

/-- May a text be written there? -/
def mayW (size : Int) (safe : List ByteArray) (at_ : Int) (t : ByteArray) : Bool := decide ((0 ≤ at_ ∧ at_ < safe.length) ∧ (t.size : Int) ≤ size)

def padW (size : Int) (t : ByteArray) : ByteArray := t ++ zerosB (size - t.size).toNat

theorem padW_size {size : Int} {t : ByteArray} (h : (t.size : Int) ≤ size) : ((padW size t).size : Int) = size := by
  unfold padW
  rw [ByteArray.size_append, zerosB_size]
  omega

theorem e_Write {size at_ : Int} {safe : List ByteArray} {pend : List W2} {t : ByteArray} (hd : DInv size safe pend) : F_disk_Disk_Write (at_, t, ()) ((size, ()), safe, pend, ()) =
    some (mayW size safe at_ t, ((size, ()), safe, (), (if mayW size safe at_ t = true then pend ++ [(at_, padW size t)] else pend), ())) := by
  rw [Fe_disk_Disk_Write]
  unfold tree_disk_Disk_Write mayW
  rw [e_has]
  simp only [Option.bind_some]
  have h1 := hd.lo
  have h2 := hd.hi
  by_cases h : 0 ≤ at_ ∧ at_ < safe.length
  · rw [decide_eq_true h]
    simp only [Bool.not_true, cond_false]
    rw [cond_decide]
    by_cases hs : (t.size : Int) > size
    · rw [if_pos hs, decide_eq_false (by omega)]; rfl
    · rw [if_neg hs, decide_eq_true (show (0 ≤ at_ ∧ at_ < (safe.length : Int)) ∧ (t.size : Int) ≤ size from ⟨h, by omega⟩), i64id (by omega) (by omega), e_Repeat0 (by omega) (by omega)]
      simp only [Option.bind_some, if_true]
      rw [cd_t (by rw [zerosB_size]; omega), cd_t (by have := hd.few; omega)]
      rfl
  · rw [decide_eq_false h, decide_eq_false (show ¬ ((0 ≤ at_ ∧ at_ < (safe.length : Int)) ∧ (t.size : Int) ≤ size) from fun hh => h hh.1)]; rfl

/-! ### what a crash keeps -/

def layW (c : Nat) (safe : List ByteArray) (p : W2) : List ByteArray :=
  safe.set p.1.toNat (p.2.extract 0 c ++ (safe.getD p.1.toNat ByteArray.empty).extract c (safe.getD p.1.toNat ByteArray.empty).size)

def keepS (c : Nat → Nat) : Nat → List ByteArray → List W2 → List ByteArray
  | _, safe, [] => safe
  | k, safe, p :: l => keepS c (k + 1) (layW (c k) safe p) l

theorem layW_len (c : Nat) (safe : List ByteArray) (p : W2) : (layW c safe p).length = safe.length := by simp [layW]

theorem keepS_len (c : Nat → Nat) : ∀ (l : List W2) (k : Nat) (safe : List ByteArray), (keepS c k safe l).length = safe.length
  | [], k, safe => rfl
  | p :: l, k, safe => by simp only [keepS]; rw [keepS_len c l, layW_len]

theorem layW_sz {size : Int} {c : Nat} {safe : List ByteArray} {p : W2} (hc : (c : Int) ≤ size) (hs : ∀ s, s ∈ safe → (s.size : Int) = size) (hp : 0 ≤ p.1 ∧ p.1 < safe.length ∧ (p.2.size : Int) = size) : ∀ s, s ∈ layW c safe p → (s.size : Int) = size := by
  intro s h
  rcases List.mem_or_eq_of_mem_set h with h | h
  · exact hs s h
  · subst h
    have h1 := hs _ (getD_mem (l := safe) (i := p.1.toNat) (d := ByteArray.empty) (by omega))
    rw [ByteArray.size_append, ByteArray.size_extract, ByteArray.size_extract]
    omega

/-- From 0 to the size. -/
def clampS (size x : Int) : Int := if size < (if 0 > x then 0 else x) then size else if 0 > x then 0 else x

theorem clampS_in {size x : Int} (h : 0 ≤ size) : 0 ≤ clampS size x ∧ clampS size x ≤ size := by
  unfold clampS
  by_cases h1 : 0 > x
  · simp only [if_pos h1]; split <;> omega
  · simp only [if_neg h1]; split <;> omega

theorem DInv.lay {size : Int} {safe : List ByteArray} {pend : List W2} (h : DInv size safe pend) {c : Nat} {p : W2} (hc : (c : Int) ≤ size) (hp : p ∈ pend) : DInv size (layW c safe p) pend :=
  ⟨h.lo, h.hi, by rw [layW_len]; exact h.n2, layW_sz hc h.sz (h.pd p hp), fun q hq => by rw [layW_len]; exact h.pd q hq, h.few⟩

/-- What the code does at one write, whatever says how many bytes are kept. -/
theorem lay_step {α : Type} {size x : Int} {safe : List ByteArray} {pend : List W2} (h : DInv size safe pend) {k : Nat} (hk : k < pend.length) (K : List ByteArray → Option α) :
    (cond (decide (0 ≤ if size < if 0 > x then 0 else x then size else if 0 > x then 0 else x))
     (cond (decide   ((if size < if 0 > x then 0 else x then size else if 0 > x then 0 else x) ≤     (↑(pend.getD (0 + k) (0, ByteArray.empty)).snd.size : Int)))
      (cond (decide (0 ≤ (pend.getD (0 + k) (0, ByteArray.empty)).fst))
       (cond (decide ((pend.getD (0 + k) (0, ByteArray.empty)).fst < (↑safe.length : Int)))
        (cond (decide (0 ≤ if size < if 0 > x then 0 else x then size else if 0 > x then 0 else x))
         (cond (decide   ((if size < if 0 > x then 0 else x then size else if 0 > x then 0 else x) ≤     (↑(safe.getD (0 + (pend.getD (0 + k) (0, ByteArray.empty)).fst.toNat) ByteArray.empty).size : Int)))
          (cond (decide   (((pend.getD (0 + k) (0, ByteArray.empty)).snd.extract 0 (if size < if 0 > x then 0 else x then size else if 0 > x then 0 else x).toNat).size +
             ((safe.getD (0 + (pend.getD (0 + k) (0, ByteArray.empty)).fst.toNat) ByteArray.empty).extract (if size < if 0 > x then 0 else x then size else if 0 > x then 0 else x).toNat (safe.getD (0 + (pend.getD (0 + k) (0, ByteArray.empty)).fst.toNat) ByteArray.empty).size).size ≤ 9223372036854775807))
           (cond (decide (0 ≤ (pend.getD (0 + k) (0, ByteArray.empty)).fst))
            (cond (decide ((pend.getD (0 + k) (0, ByteArray.empty)).fst < (↑safe.length : Int)))
             (K (safe.set (0 + (pend.getD (0 + k) (0, ByteArray.empty)).fst.toNat) ((pend.getD (0 + k) (0, ByteArray.empty)).snd.extract 0 (if size < if 0 > x then 0 else x then size else if 0 > x then 0 else x).toNat ++
               (safe.getD (0 + (pend.getD (0 + k) (0, ByteArray.empty)).fst.toNat) ByteArray.empty).extract (if size < if 0 > x then 0 else x then size else if 0 > x then 0 else x).toNat (safe.getD (0 + (pend.getD (0 + k) (0, ByteArray.empty)).fst.toNat) ByteArray.empty).size)))
             none) none) none) none) none) none) none) none) none) =
    K (layW (clampS size x).toNat safe pend[k]) := by
  have hp := h.pd pend[k] (List.getElem_mem hk)
  have hlo := h.lo
  have hhi := h.hi
  have hc := clampS_in (size := size) (x := x) (by omega)
  have e1 : pend.getD (0 + k) (0, ByteArray.empty) = pend[k] := by simp [List.getD, hk]
  have e2 : (if size < if 0 > x then 0 else x then size else if 0 > x then 0 else x) = clampS size x := rfl
  have hs := h.sz _ (getD_mem (l := safe) (i := pend[k].1.toNat) (d := ByteArray.empty) (by omega))
  rw [e1, e2, Nat.zero_add]
  rw [cd_t hc.1, cd_t (by omega), cd_t hp.1, cd_t hp.2.1, cd_t hc.1, cd_t (by omega), cd_t (by rw [ByteArray.size_extract, ByteArray.size_extract]; omega), cd_t hp.1, cd_t hp.2.1]
  rfl

theorem Flush_loop {size : Int} {pend : List W2} : ∀ (d k : Nat) (safe : List ByteArray), DInv size safe pend → k + d = pend.length →
    L_disk_Disk_keep_v1_1 ((), (pend.length : Int), (k : Int), ()) ((size, ()), (), safe, pend, ()) = some ((), ((size, ()), (), keepS (fun _ => (clampS size size).toNat) k safe (pend.drop k), pend, ()))
  | 0, k, safe, h, hk => by
    rw [Le_disk_Disk_keep_v1_1]
    unfold ltree_disk_Disk_keep_v1_1
    rw [cd_f (by omega), List.drop_of_length_le (by omega)]
    rfl
  | d + 1, k, safe, h, hk => by
    rw [Le_disk_Disk_keep_v1_1]
    unfold ltree_disk_Disk_keep_v1_1
    have hkl : k < pend.length := by omega
    have hf := h.few
    have hlo := h.lo
    rw [cd_t (by omega), cd_t (by omega), cd_t (by omega), Fe_disk_Disk_Flush_1]
    have e0 : (tree_disk_Disk_Flush_1 (k : Int) size safe pend some).map (fun r => (r.1, ())) = some (size, ()) := rfl
    rw [e0]
    simp only [Option.bind_some, Int.toNat_natCast]
    rw [lay_step h hkl fun z => L_disk_Disk_keep_v1_1 ((), (pend.length : Int), IntKind.i64.wrap ((k : Int) + 1), ()) ((size, ()), (), z, pend, ())]
    have hc := clampS_in (size := size) (x := size) (by omega)
    rw [i64id (by omega) (by omega), show ((k : Int) + 1) = ((k + 1 : Nat) : Int) by omega, Flush_loop d (k + 1) _ (h.lay (by omega) (List.getElem_mem hkl)) (by omega), List.drop_eq_getElem_cons hkl]
    rfl

theorem e_Flush {size : Int} {safe : List ByteArray} {pend : List W2} (h : DInv size safe pend) : F_disk_Disk_Flush () ((size, ()), safe, pend, ()) = some ((), ((size, ()), keepS (fun _ => (clampS size size).toNat) 0 safe pend, (), [], ())) := by
  rw [Fe_disk_Disk_Flush]
  unfold tree_disk_Disk_Flush
  rw [Fe_disk_Disk_keep_v1]
  unfold tree_disk_Disk_keep_v1
  have := Flush_loop pend.length 0 safe h (by omega)
  rw [show ((0 : Nat) : Int) = 0 from rfl] at this
  rw [this]
  rfl

theorem Crash_loop {size : Int} {pend : List W2} {keep : List Int} : ∀ (d k : Nat) (safe : List ByteArray), DInv size safe pend → k + d = pend.length →
    L_disk_Disk_keep_v2_1 ((), (pend.length : Int), (k : Int), ()) ((size, ()), (keep, ()), safe, pend, ()) = some ((), ((size, ()), (keep, ()), keepS (fun k => (clampS size (keep.getD k 0)).toNat) k safe (pend.drop k), pend, ()))
  | 0, k, safe, h, hk => by
    rw [Le_disk_Disk_keep_v2_1]
    unfold ltree_disk_Disk_keep_v2_1
    rw [cd_f (by omega), List.drop_of_length_le (by omega)]
    rfl
  | d + 1, k, safe, h, hk => by
    rw [Le_disk_Disk_keep_v2_1]
    unfold ltree_disk_Disk_keep_v2_1
    have hkl : k < pend.length := by omega
    have hf := h.few
    have hlo := h.lo
    rw [cd_t (by omega), cd_t (by omega), cd_t (by omega), Fe_disk_Disk_Crash_1]
    have e0 : (tree_disk_Disk_Crash_1 (k : Int) keep some).map (fun r => (r.1, ())) = some (keep.getD k 0, ()) := by
      unfold tree_disk_Disk_Crash_1
      rw [cond_decide]
      by_cases hkk : (k : Int) < keep.length
      · rw [if_pos hkk, cd_t (by omega), cd_t (by omega), Int.toNat_natCast]; rfl
      · rw [if_neg hkk]
        have : keep.getD k 0 = 0 := by rw [List.getD_eq_getElem?_getD, List.getElem?_eq_none (by omega)]; rfl
        rw [this]; rfl
    rw [e0]
    simp only [Option.bind_some, Int.toNat_natCast]
    rw [lay_step h hkl fun z => L_disk_Disk_keep_v2_1 ((), (pend.length : Int), IntKind.i64.wrap ((k : Int) + 1), ()) ((size, ()), (keep, ()), z, pend, ())]
    have hc := clampS_in (size := size) (x := keep.getD k 0) (by omega)
    rw [i64id (by omega) (by omega), show ((k : Int) + 1) = ((k + 1 : Nat) : Int) by omega, Crash_loop d (k + 1) _ (h.lay (by omega) (List.getElem_mem hkl)) (by omega), List.drop_eq_getElem_cons hkl]
    rfl

theorem e_Crash {size : Int} {safe : List ByteArray} {pend : List W2} {keep : List Int} (h : DInv size safe pend) : F_disk_Disk_Crash (keep, ()) ((size, ()), safe, pend, ()) = some ((), ((size, ()), keepS (fun k => (clampS size (keep.getD k 0)).toNat) 0 safe pend, (), [], ())) := by
  rw [Fe_disk_Disk_Crash]
  unfold tree_disk_Disk_Crash
  rw [Fe_disk_Disk_keep_v2]
  unfold tree_disk_Disk_keep_v2
  have := Crash_loop (keep := keep) pend.length 0 safe h (by omega)
  rw [show ((0 : Nat) : Int) = 0 from rfl] at this
  rw [this]
  rfl

abbrev ActR := Int × Int × ByteArray × List Int

def okN (n size : Int) : Prop := 1 ≤ n ∧ n ≤ 256 ∧ 32 ≤ size ∧ size ≤ 512

instance (n size : Int) : Decidable (okN n size) := by unfold okN; exact inferInstance

theorem New_loop {n size : Int} (h : okN n size) : ∀ (d k : Nat) (s : Int), (k : Int) + d = n →
    L_disk_New_5 (size, n, (k : Int), ()) (List.replicate k (zerosB size.toNat), (s, ()), ()) = some ((), (List.replicate n.toNat (zerosB size.toNat), (s, ()), ()))
  | 0, k, s, hk => by
    rw [Le_disk_New_5]
    unfold ltree_disk_New_5
    rw [cd_f (by omega), show n.toNat = k by omega]
  | d + 1, k, s, hk => by
    obtain ⟨h1, h2, h3, h4⟩ := h
    rw [Le_disk_New_5]
    unfold ltree_disk_New_5
    rw [cd_t (by omega), e_Repeat0 (by omega) (by omega)]
    simp only [Option.bind_some]
    rw [cd_t (by rw [List.length_replicate]; omega), i64id (by omega) (by omega), List.nil_append, show ((k : Int) + 1) = ((k + 1 : Nat) : Int) by omega, ← List.replicate_succ']
    exact New_loop ⟨h1, h2, h3, h4⟩ d (k + 1) s (by omega)

theorem e_New {n size : Int} (h : okN n size) : F_disk_New (n, size, ()) () = some (.inr ((), ((size, ()), List.replicate n.toNat (zerosB size.toNat), [], ()))) := by
  have h' := h
  obtain ⟨h1, h2, h3, h4⟩ := h
  rw [Fe_disk_New]
  unfold tree_disk_New
  rw [cd_f (by omega), cd_f (by omega), cd_f (by omega), cd_f (by omega)]
  have := New_loop h' n.toNat 0 size (by omega)
  rw [show ((0 : Nat) : Int) = 0 from rfl, show List.replicate 0 (zerosB size.toNat) = [] from rfl] at this
  rw [this]
  rfl

theorem e_New_no {n size : Int} (h : ¬ okN n size) : F_disk_New (n, size, ()) () = some (.inl ((), ())) := by
  rw [Fe_disk_New]
  unfold tree_disk_New
  unfold okN at h
  simp only [cond_decide]
  by_cases h1 : n < 1
  · rw [if_pos h1]
  · by_cases h2 : n > 256
    · rw [if_neg h1, if_pos h2]
    · by_cases h3 : size < 32
      · rw [if_neg h1, if_neg h2, if_pos h3]
      · rw [if_neg h1, if_neg h2, if_neg h3, if_pos (show size > 512 by omega)]

theorem new_DInv {n size : Int} (h : okN n size) : DInv size (List.replicate n.toNat (zerosB size.toNat)) [] := by
  obtain ⟨h1, h2, h3, h4⟩ := h
  refine ⟨h3, h4, by rw [List.length_replicate]; omega, ?_, fun p hp => (by cases hp), by simp⟩
  intro s hs
  rw [List.eq_of_mem_replicate hs, zerosB_size]
  omega

theorem keepS_sz {size : Int} {c : Nat → Nat} (hc : ∀ k, (c k : Int) ≤ size) : ∀ (l : List W2) (k : Nat) (safe : List ByteArray),
    (∀ s, s ∈ safe → (s.size : Int) = size) → (∀ p, p ∈ l → 0 ≤ p.1 ∧ p.1 < safe.length ∧ (p.2.size : Int) = size) → ∀ s, s ∈ keepS c k safe l → (s.size : Int) = size
  | [], k, safe, h, _, s, hs => h s hs
  | p :: l, k, safe, h, hp, s, hs => by
    refine keepS_sz hc l (k + 1) (layW (c k) safe p) (layW_sz (hc k) h (hp p List.mem_cons_self)) ?_ s hs
    intro q hq
    rw [layW_len]
    exact hp q (List.mem_cons_of_mem _ hq)

theorem DInv.keep {size : Int} {safe : List ByteArray} {pend : List W2} (h : DInv size safe pend) {c : Nat → Nat} (hc : ∀ k, (c k : Int) ≤ size) : DInv size (keepS c 0 safe pend) [] :=
  ⟨h.lo, h.hi, by rw [keepS_len]; exact h.n2, keepS_sz hc pend 0 safe h.sz h.pd, fun p hp => (by cases hp), by simp⟩

theorem DInv.size0 {size : Int} {safe : List ByteArray} {pend : List W2} (h : DInv size safe pend) : 0 ≤ size := by have := h.lo; omega

theorem clampN {size x : Int} (h : 0 ≤ size) : ((clampS size x).toNat : Int) ≤ size := by have := clampS_in (size := size) (x := x) h; omega

theorem DInv.write {size at_ : Int} {safe : List ByteArray} {pend : List W2} {t : ByteArray} (h : DInv size safe pend) (hm : mayW size safe at_ t = true) (hl : pend.length < 1000000) : DInv size safe (pend ++ [(at_, padW size t)]) := by
  unfold mayW at hm
  simp only [decide_eq_true_eq] at hm
  refine ⟨h.lo, h.hi, h.n2, h.sz, ?_, by rw [List.length_append, List.length_singleton]; omega⟩
  intro p hp
  rcases List.mem_append.1 hp with hp | hp
  · exact h.pd p hp
  · rw [List.mem_singleton] at hp
    subst hp
    exact ⟨hm.1.1, hm.1.2, padW_size hm.2⟩

/-- What an act answers. -/
def ansS (size : Int) (safe : List ByteArray) (pend : List W2) (a : ActR) : ByteArray × Bool :=
  if a.1 = 0 then readS safe pend a.2.1 else if a.1 = 1 then (ByteArray.empty, mayW size safe a.2.1 a.2.2.1) else if a.1 = 2 then (ByteArray.empty, true) else if a.1 = 3 then (ByteArray.empty, true) else (ByteArray.empty, false)

/-- What is safe, what is pending behind it. -/
def actS (size : Int) (safe : List ByteArray) (pend : List W2) (a : ActR) : List ByteArray × List W2 :=
  if a.1 = 0 then (safe, pend) else if a.1 = 1 then (safe, if mayW size safe a.2.1 a.2.2.1 = true then pend ++ [(a.2.1, padW size a.2.2.1)] else pend)
  else if a.1 = 2 then (keepS (fun _ => (clampS size size).toNat) 0 safe pend, [])
  else if a.1 = 3 then (keepS (fun k => (clampS size (a.2.2.2.getD k 0)).toNat) 0 safe pend, []) else (safe, pend)

theorem act_len {size : Int} {safe : List ByteArray} {pend : List W2} {a : ActR} : (actS size safe pend a).1.length = safe.length := by
  unfold actS
  split
  · rfl
  · split
    · rfl
    · split
      · exact keepS_len _ _ _ _
      · split
        · exact keepS_len _ _ _ _
        · rfl

theorem act_DInv {size : Int} {safe : List ByteArray} {pend : List W2} {a : ActR} (h : DInv size safe pend) (hl : pend.length < 1000000) : DInv size (actS size safe pend a).1 (actS size safe pend a).2 := by
  unfold actS
  split
  · exact h
  · split
    · by_cases hm : mayW size safe a.2.1 a.2.2.1 = true
      · simp only [if_pos hm]; exact h.write hm hl
      · simp only [if_neg hm]; exact h
    · split
      · exact h.keep fun _ => clampN h.size0
      · split
        · exact h.keep fun _ => clampN h.size0
        · exact h

theorem act_pend {size : Int} {safe : List ByteArray} {pend : List W2} {a : ActR} : (actS size safe pend a).2.length ≤ pend.length + 1 := by
  unfold actS
  split
  · simp
  · split
    · dsimp only
      split
      · simp
      · simp
    · split
      · simp
      · split
        · simp
        · simp

theorem ext_all {b : ByteArray} {c : Nat} (h : b.size = c) : b.extract 0 c = b := by subst h; exact ByteArray.extract_zero_size

theorem ext_none {b : ByteArray} {c : Nat} (h : b.size ≤ c) : b.extract c b.size = ByteArray.empty := by
  rw [← ByteArray.size_eq_zero_iff, ByteArray.size_extract]
  omega

theorem getD_set {α : Type} (l : List α) (i j : Nat) (x d : α) (h : j < l.length) : (l.set j x).getD i d = if j = i then x else l.getD i d := by
  rw [List.getD_eq_getElem?_getD, List.getD_eq_getElem?_getD, List.getElem?_set]
  by_cases hij : j = i
  · rw [if_pos hij, if_pos hij, if_pos h]; rfl
  · rw [if_neg hij, if_neg hij]

theorem lastW_cons (p : W2) (l : List W2) (at_ : Int) : lastW (p :: l) at_ = match lastW l at_ with | some t => some t | none => if p.1 = at_ then some p.2 else none := by
  unfold lastW
  rw [List.reverse_cons, List.find?_append]
  cases l.reverse.find? fun q => q.1 == at_ with
  | some q => rfl
  | none =>
    by_cases h : p.1 = at_
    · simp [h]
    · simp [h, beq_false_of_ne h]

theorem layW_at {size : Int} {c : Nat} {safe : List ByteArray} {p : W2} (hp : 0 ≤ p.1 ∧ p.1 < safe.length) (i : Nat) : (layW c safe p).getD i ByteArray.empty =
    if p.1.toNat = i then p.2.extract 0 c ++ (safe.getD p.1.toNat ByteArray.empty).extract c (safe.getD p.1.toNat ByteArray.empty).size else safe.getD i ByteArray.empty := by
  unfold layW
  exact getD_set _ _ _ _ _ (by omega)

theorem keep_full {size : Int} {c : Nat → Nat} (hc : ∀ k, (c k : Int) = size) : ∀ (l : List W2) (k : Nat) (safe : List ByteArray),
    (∀ s, s ∈ safe → (s.size : Int) = size) → (∀ p, p ∈ l → 0 ≤ p.1 ∧ p.1 < safe.length ∧ (p.2.size : Int) = size) → ∀ i : Nat, i < safe.length →
    (keepS c k safe l).getD i ByteArray.empty = match lastW l (i : Int) with | some t => t | none => safe.getD i ByteArray.empty
  | [], k, safe, hs, hp, i, hi => rfl
  | p :: l, k, safe, hs, hp, i, hi => by
    have h1 := hp p List.mem_cons_self
    show (keepS c (k + 1) (layW (c k) safe p) l).getD i ByteArray.empty = _
    rw [keep_full hc l (k + 1) (layW (c k) safe p) (layW_sz (by have := hc k; omega) hs h1) (fun q hq => by rw [layW_len]; exact hp q (List.mem_cons_of_mem _ hq)) i (by rw [layW_len]; exact hi), lastW_cons]
    cases lastW l (i : Int) with
    | some t => rfl
    | none =>
      dsimp only
      have h2 := hs _ (getD_mem (l := safe) (i := p.1.toNat) (d := ByteArray.empty) (by omega))
      have h3 := hc k
      rw [layW_at (size := size) ⟨h1.1, h1.2.1⟩, ext_all (b := p.2) (by omega), ext_none (by omega), ByteArray.append_empty]
      by_cases hpi : p.1 = (i : Int)
      · rw [if_pos hpi, if_pos (by omega)]
      · rw [if_neg hpi, if_neg (by omega)]

theorem clamp_self {size : Int} (h : 0 ≤ size) : clampS size size = size := by
  unfold clampS
  rw [if_neg (show ¬ (0 : Int) > size by omega), if_neg (show ¬ size < size by omega)]

/-- Flushed. -/
def flushS (size : Int) (safe : List ByteArray) (pend : List W2) : List ByteArray := keepS (fun _ => (clampS size size).toNat) 0 safe pend

theorem flush_at {size : Int} {safe : List ByteArray} {pend : List W2} (h : DInv size safe pend) (at_ : Int) : safeS (flushS size safe pend) at_ = if 0 ≤ at_ ∧ at_ < safe.length then ((readS safe pend at_).1, true) else (ByteArray.empty, false) := by
  unfold safeS
  have hl : (flushS size safe pend).length = safe.length := keepS_len _ _ _ _
  rw [hl]
  by_cases hr : 0 ≤ at_ ∧ at_ < safe.length
  · rw [if_pos hr, if_pos hr]
    have h1 := keep_full (size := size) (c := fun _ => (clampS size size).toNat) (fun k => by have := h.size0; rw [clamp_self this]; omega) pend 0 safe h.sz h.pd at_.toNat (by omega)
    unfold flushS
    rw [h1, show ((at_.toNat : Nat) : Int) = at_ by omega]
    unfold readS
    cases lastW pend at_ with
    | some t => rfl
    | none => unfold safeS; rw [if_pos hr]
  · rw [if_neg hr, if_neg hr]

abbrev wrS (size : Int) (safe : List ByteArray) (pend : List W2) (at_ : Int) (t : ByteArray) : List W2 := if mayW size safe at_ t = true then pend ++ [(at_, padW size t)] else pend

theorem wr_DInv {size at_ : Int} {safe : List ByteArray} {pend : List W2} {t : ByteArray} (h : DInv size safe pend) (hl : pend.length < 1000000) : DInv size safe (wrS size safe pend at_ t) := by
  unfold wrS
  by_cases hm : mayW size safe at_ t = true
  · rw [if_pos hm]; exact h.write hm hl
  · rw [if_neg hm]; exact h

theorem wr_len {size at_ : Int} {safe : List ByteArray} {pend : List W2} {t : ByteArray} : (wrS size safe pend at_ t).length ≤ pend.length + 1 := by
  unfold wrS
  split <;> simp

theorem wr_swap {size a1 a2 : Int} {safe : List ByteArray} {pend : List W2} {t1 t2 : ByteArray} (h : a1 ≠ a2) (i : Int) :
    readS safe (wrS size safe (wrS size safe pend a1 t1) a2 t2) i = readS safe (wrS size safe (wrS size safe pend a2 t2) a1 t1) i := by
  have : lastW (wrS size safe (wrS size safe pend a1 t1) a2 t2) i = lastW (wrS size safe (wrS size safe pend a2 t2) a1 t1) i := by
    unfold wrS
    by_cases h1 : mayW size safe a1 t1 = true
    · by_cases h2 : mayW size safe a2 t2 = true
      · simp only [if_pos h1, if_pos h2, lastW_snoc]
        by_cases e1 : a1 = i
        · rw [if_pos e1, if_neg (fun e2 => h (e1.trans e2.symm)), if_pos e1]
        · rw [if_neg e1, if_neg e1]
      · simp only [if_pos h1, if_neg h2]
    · by_cases h2 : mayW size safe a2 t2 = true
      · simp only [if_neg h1, if_pos h2]
      · simp only [if_neg h1, if_neg h2]
  unfold readS
  rw [this]

theorem keepS_congr {c c' : Nat → Nat} : ∀ (l : List W2) (k : Nat) (safe : List ByteArray), (∀ j, k ≤ j → j < k + l.length → c j = c' j) → keepS c k safe l = keepS c' k safe l
  | [], _, _, _ => rfl
  | p :: l, k, safe, h => by
    show keepS c (k + 1) (layW (c k) safe p) l = keepS c' (k + 1) (layW (c' k) safe p) l
    rw [List.length_cons] at h
    rw [h k (Nat.le_refl _) (by omega)]
    exact keepS_congr l (k + 1) _ fun j h1 h2 => h j (by omega) (by omega)

theorem layW_0 (safe : List ByteArray) (p : W2) : layW 0 safe p = safe := by
  unfold layW
  rw [ByteArray.extract_zero_size, show p.2.extract 0 0 = ByteArray.empty by rw [← ByteArray.size_eq_zero_iff, ByteArray.size_extract]; omega, ByteArray.empty_append]
  by_cases h : p.1.toNat < safe.length
  · rw [List.getD_eq_getElem?_getD, List.getElem?_eq_getElem h]
    exact List.set_getElem_self h
  · exact List.set_eq_of_length_le (by omega)

theorem keepS_0 : ∀ (l : List W2) (k : Nat) (safe : List ByteArray), keepS (fun _ => 0) k safe l = safe
  | [], _, _ => rfl
  | p :: l, k, safe => by
    show keepS (fun _ => 0) (k + 1) (layW 0 safe p) l = safe
    rw [layW_0]
    exact keepS_0 l (k + 1) safe

theorem all_flush {size : Int} {safe : List ByteArray} {pend : List W2} : keepS (fun k => (clampS size ((List.replicate pend.length size).getD k 0)).toNat) 0 safe pend = flushS size safe pend := by
  refine keepS_congr _ _ _ fun j _ h => ?_
  rw [List.getD_eq_getElem?_getD, List.getElem?_replicate, if_pos (by omega)]
  rfl

end Go.Proofs.Ytlfedmjjjbhnpaa.S2
