/- What a disk does, in plain words. -/
import Derived.Test.YtgfanlafbjbkaaaG6
import Derived.Lib.Repeat
import Derived.WideShapes
import Derived.WalkKit
set_option linter.unusedVariables false
set_option linter.unusedSimpArgs false
namespace Go.Proofs.Ytgfanlafbjbkaaa.S2
open Go

theorem u64w (n : Int) : IntKind.u64.wrap n = n % 18446744073709551616 := by
  simp [IntKind.wrap, IntKind.bits, IntKind.signed]
theorem i64w (n : Int) : IntKind.i64.wrap n = if 9223372036854775808 ≤ n % 18446744073709551616 then n % 18446744073709551616 - 18446744073709551616 else n % 18446744073709551616 := by
  simp [IntKind.wrap, IntKind.bits, IntKind.signed]
theorem u64id {n : Int} (h0 : 0 ≤ n) (h1 : n < 18446744073709551616) : IntKind.u64.wrap n = n := by rw [u64w]; omega
theorem i64id {n : Int} (h0 : -9223372036854775808 ≤ n) (h1 : n < 9223372036854775808) : IntKind.i64.wrap n = n := by rw [i64w]; split <;> omega
theorem c_t {α : Type} {b : Bool} {x y : α} (h : b = true) : cond b x y = x := by rw [h]; rfl
theorem c_f {α : Type} {b : Bool} {x y : α} (h : b = false) : cond b x y = y := by rw [h]; rfl
theorem cd_t {α : Type} {p : Prop} [Decidable p] {x y : α} (h : p) : cond (decide p) x y = x := c_t (decide_eq_true h)
theorem cd_f {α : Type} {p : Prop} [Decidable p] {x y : α} (h : ¬ p) : cond (decide p) x y = y := c_f (decide_eq_false h)
theorem cond_decide {α : Type} (p : Prop) [Decidable p] (x y : α) : cond (decide p) x y = if p then x else y := by by_cases h : p <;> simp [h]
theorem cond_eqi {α : Type} (a b : Int) (x y : α) : cond (a == b) x y = if a = b then x else y := by
  by_cases h : a = b
  · simp [h]
  · rw [beq_false_of_ne h, if_neg h]; rfl
theorem cond_nei {α : Type} (a b : Int) (x y : α) : cond (a != b) x y = if a = b then y else x := by
  by_cases h : a = b
  · simp [h]
  · rw [bne_iff_ne.2 h, if_neg h]; rfl
theorem bytes_beq (a b : ByteArray) : (a.toList == b.toList) = decide (a = b) := by
  rw [ByteArray.toList_eq, ByteArray.toList_eq, Bool.eq_iff_iff, beq_iff_eq, decide_eq_true_eq]
  exact ⟨fun h => WideShapes.bytes_inj h, fun h => by rw [h]⟩

abbrev W2 := Int × ByteArray

/-- So many bytes 0. -/
def zerosB (n : Nat) : ByteArray := ⟨(List.replicate n 0).toArray⟩
theorem zerosB_size (n : Nat) : (zerosB n).size = n := by simp [zerosB, ByteArray.size]

theorem e_Repeat0 {n : Int} (h : 0 ≤ n) (h1 : n ≤ 140737488355328) : F_strings_Repeat ((ByteArray.mk #[0]), n, ()) () = some (zerosB n.toNat, ()) := by
  unfold F_strings_Repeat
  have hs : (ByteArray.mk #[0]).size = 1 := rfl
  rw [cd_t ⟨h, (by dsimp only; omega), (by dsimp only; rw [hs]; omega)⟩]
  have := Go.Lib.repeatL_replicate 0 1 n.toNat
  rw [Nat.mul_one] at this
  have e : Go.Lib.repeatL (ByteArray.mk #[0]).data.toList n.toNat = List.replicate n.toNat 0 := this
  dsimp only
  rw [e]
  rfl

theorem e_Zeros {n : Int} (h : 0 ≤ n) (h1 : n ≤ 140737488355328) : F_ref08_Zeros (n, ()) () = some (zerosB n.toNat, ()) := by
  rw [Fe_ref08_Zeros]
  unfold tree_ref08_Zeros
  rw [cd_t h, cd_t (by omega), cd_t (by omega)]
  have : Go.strOfNums (List.replicate n.toNat 0) = zerosB n.toNat := by
    unfold Go.strOfNums zerosB
    rw [List.map_replicate]
    rfl
  rw [this]

/-- A disk that may be. -/
structure DInv (size : Int) (safe : List ByteArray) (pend : List W2) : Prop where
  lo : 32 ≤ size
  hi : size ≤ 512
  n2 : safe.length ≤ 256
  sz : ∀ s, s ∈ safe → (s.size : Int) = size
  pd : ∀ p, p ∈ pend → 0 ≤ p.1 ∧ p.1 < safe.length ∧ (p.2.size : Int) = size
  few : pend.length ≤ 1000000

theorem getD_mem {α : Type} {l : List α} {i : Nat} {d : α} (h : i < l.length) : l.getD i d ∈ l := by
  rw [List.getD_eq_getElem?_getD, List.getElem?_eq_getElem h]
  exact List.getElem_mem h

theorem e_has {size at_ : Int} {safe : List ByteArray} {pend : List W2} : F_disk_Disk_has (at_, ()) ((size, ()), safe, pend, ()) = some (decide (0 ≤ at_ ∧ at_ < safe.length), ()) := by
  rw [Fe_disk_Disk_has]
  unfold tree_disk_Disk_has
  rw [cond_decide]
  by_cases h : at_ ≥ 0
  · rw [if_pos h]
    have : decide (at_ < (safe.length : Int)) = decide (0 ≤ at_ ∧ at_ < safe.length) := by rw [Bool.eq_iff_iff]; simp; omega
    rw [this]; rfl
  · rw [if_neg h, decide_eq_false (by omega)]; rfl

def safeS (safe : List ByteArray) (at_ : Int) : ByteArray × Bool := if 0 ≤ at_ ∧ at_ < safe.length then (safe.getD at_.toNat ByteArray.empty, true) else (ByteArray.empty, false)

theorem e_Safe {size at_ : Int} {safe : List ByteArray} {pend : List W2} : F_disk_Disk_Safe (at_, ()) ((size, ()), safe, pend, ()) = some (((safeS safe at_).1, (safeS safe at_).2, ()), ()) := by
  rw [Fe_disk_Disk_Safe]
  unfold tree_disk_Disk_Safe safeS
  rw [e_has]
  simp only [Option.bind_some]
  by_cases h : 0 ≤ at_ ∧ at_ < safe.length
  · rw [decide_eq_true h, if_pos h]
    simp only [Bool.not_true, cond_false]
    rw [cd_t h.1, cd_t h.2, Nat.zero_add]; rfl
  · rw [decide_eq_false h, if_neg h]; rfl

/-- The text of the last write to a sector. -/
def lastW (pend : List W2) (at_ : Int) : Option ByteArray := (pend.reverse.find? fun p => p.1 == at_).map (·.2)

def readS (safe : List ByteArray) (pend : List W2) (at_ : Int) : ByteArray × Bool :=
  match lastW pend at_ with
  | some t => (t, true)
  | none => safeS safe at_

theorem lastW_snoc (pend : List W2) (p : W2) (at_ : Int) : lastW (pend ++ [p]) at_ = if p.1 = at_ then some p.2 else lastW pend at_ := by
  unfold lastW
  rw [List.reverse_append, List.reverse_singleton, List.singleton_append, List.find?_cons]
  by_cases h : p.1 = at_
  · simp [h]
  · simp [h, beq_false_of_ne h]

theorem Read_loop (size at_ : Int) (safe : List ByteArray) (pend : List W2) (hl : pend.length ≤ 1000000) : ∀ (k : Nat), k ≤ pend.length →
    L_disk_Disk_Read_2 (at_, (k : Int) - 1, ()) ((size, ()), safe, pend, ()) = match lastW (pend.take k) at_ with
      | some t => some (.inl ((at_, t, true, ()), ((size, ()), safe, pend, ())))
      | none => some (.inr ((at_, ()), ((size, ()), safe, pend, ())))
  | 0, h => by
    rw [Le_disk_Disk_Read_2]
    unfold ltree_disk_Disk_Read_2
    rw [cd_f (by omega)]
    rfl
  | k + 1, h => by
    rw [Le_disk_Disk_Read_2]
    unfold ltree_disk_Disk_Read_2
    have hk : k < pend.length := by omega
    have e0 : (((k + 1 : Nat) : Int) - 1) = k := by omega
    rw [e0, cd_t (by omega), cd_t (by omega), cd_t (by omega), cond_eqi, cd_t (by omega), cd_t (by omega), i64id (by omega) (by omega), Read_loop size at_ safe pend hl k (by omega), Nat.zero_add, Int.toNat_natCast]
    have e1 : pend.getD k (0, ByteArray.empty) = pend[k] := by simp [List.getD, hk]
    have e2 : pend.take (k + 1) = pend.take k ++ [pend[k]] := by rw [List.take_succ_eq_append_getElem hk]
    rw [e1, e2, lastW_snoc]
    by_cases h1 : pend[k].1 = at_
    · rw [if_pos h1, if_pos h1]
    · rw [if_neg h1, if_neg h1]

theorem e_Read {size at_ : Int} {safe : List ByteArray} {pend : List W2} (hl : pend.length ≤ 1000000) : F_disk_Disk_Read (at_, ()) ((size, ()), safe, pend, ()) = some (((readS safe pend at_).1, (readS safe pend at_).2, ()), ()) := by
  rw [Fe_disk_Disk_Read]
  unfold tree_disk_Disk_Read readS
  rw [i64id (by omega) (by omega), Read_loop size at_ safe pend hl pend.length (Nat.le_refl _), List.take_length]
  cases lastW pend at_ with
  | some t => rfl
  | none =>
    simp only [Option.bind_some, Sum.elim_inr]
    rw [e_Safe]
    rfl

theorem e_Sectors {size : Int} {safe : List ByteArray} {pend : List W2} : F_disk_Disk_Sectors () ((size, ()), safe, pend, ()) = some ((safe.length : Int), ()) := by
  rw [Fe_disk_Disk_Sectors]; rfl
theorem e_Size {size : Int} {safe : List ByteArray} {pend : List W2} : F_disk_Disk_Size () ((size, ()), safe, pend, ()) = some (size, ()) := by
  rw [Fe_disk_Disk_Size]; rfl
theorem e_Pending {size : Int} {safe : List ByteArray} {pend : List W2} : F_disk_Disk_Pending () ((size, ()), safe, pend, ()) = some ((pend.length : Int), ()) := by
  rw [Fe_disk_Disk_Pending]; rfl

/-- May a text be written there? -/
def mayW (size : Int) (safe : List ByteArray) (at_ : Int) (t : ByteArray) : Bool := decide ((0 ≤ at_ ∧ at_ < safe.length) ∧ (t.size : Int) ≤ size)
def padW (size : Int) (t : ByteArray) : ByteArray := t ++ zerosB (size - t.size).toNat

theorem padW_size {size : Int} {t : ByteArray} (h : (t.size : Int) ≤ size) : ((padW size t).size : Int) = size := by
  unfold padW
  rw [ByteArray.size_append, zerosB_size]
  omega

theorem e_Write {size at_ : Int} {safe : List ByteArray} {pend : List W2} {t : ByteArray} (hd : DInv size safe pend) : F_disk_Disk_Write (at_, t, ()) ((size, ()), safe, pend, ()) =
    some (mayW size safe at_ t, ((size, ()), safe, (), (if mayW size safe at_ t = true then pend ++ [(at_, padW size t)] else pend), ())) := by
  rw [Fe_disk_Disk_Write]
  unfold tree_disk_Disk_Write mayW
  rw [e_has]
  simp only [Option.bind_some]
  have h1 := hd.lo
  have h2 := hd.hi
  by_cases h : 0 ≤ at_ ∧ at_ < safe.length
  · rw [decide_eq_true h]
    simp only [Bool.not_true, cond_false]
    rw [cond_decide]
    by_cases hs : (t.size : Int) > size
    · rw [if_pos hs, decide_eq_false (by omega)]; rfl
    · rw [if_neg hs, decide_eq_true (show (0 ≤ at_ ∧ at_ < (safe.length : Int)) ∧ (t.size : Int) ≤ size from ⟨h, by omega⟩), i64id (by omega) (by omega), e_Repeat0 (by omega) (by omega)]
      simp only [Option.bind_some, if_true]
      rw [cd_t (by rw [zerosB_size]; omega), cd_t (by have := hd.few; omega)]
      rfl
  · rw [decide_eq_false h, decide_eq_false (show ¬ ((0 ≤ at_ ∧ at_ < (safe.length : Int)) ∧ (t.size : Int) ≤ size) from fun hh => h hh.1)]; rfl

/-! ### what a crash keeps -/

def layW (c : Nat) (safe : List ByteArray) (p : W2) : List ByteArray :=
  safe.set p.1.toNat (p.2.extract 0 c ++ (safe.getD p.1.toNat ByteArray.empty).extract c (safe.getD p.1.toNat ByteArray.empty).size)

def keepS (c : Nat → Nat) : Nat → List ByteArray → List W2 → List ByteArray
  | _, safe, [] => safe
  | k, safe, p :: l => keepS c (k + 1) (layW (c k) safe p) l

theorem layW_len (c : Nat) (safe : List ByteArray) (p : W2) : (layW c safe p).length = safe.length := by simp [layW]
theorem keepS_len (c : Nat → Nat) : ∀ (l : List W2) (k : Nat) (safe : List ByteArray), (keepS c k safe l).length = safe.length
  | [], k, safe => rfl
  | p :: l, k, safe => by simp only [keepS]; rw [keepS_len c l, layW_len]

theorem layW_sz {size : Int} {c : Nat} {safe : List ByteArray} {p : W2} (hc : (c : Int) ≤ size) (hs : ∀ s, s ∈ safe → (s.size : Int) = size) (hp : 0 ≤ p.1 ∧ p.1 < safe.length ∧ (p.2.size : Int) = size) : ∀ s, s ∈ layW c safe p → (s.size : Int) = size := by
  intro s h
  rcases List.mem_or_eq_of_mem_set h with h | h
  · exact hs s h
  · subst h
    have h1 := hs _ (getD_mem (l := safe) (i := p.1.toNat) (d := ByteArray.empty) (by omega))
    rw [ByteArray.size_append, ByteArray.size_extract, ByteArray.size_extract]
    omega
end Go.Proofs.Ytgfanlafbjbkaaa.S2
