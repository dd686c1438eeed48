/- New disks, acts, disks behind acts. -/
import Derived.Test.YtgfanlafbjbkaaaQ1
set_option linter.unusedVariables false
set_option linter.unusedSimpArgs false
namespace Go.Proofs.Ytgfanlafbjbkaaa.S2
open Go

abbrev ActR := Int × Int × ByteArray × List Int

def okN (n size : Int) : Prop := 1 ≤ n ∧ n ≤ 256 ∧ 32 ≤ size ∧ size ≤ 512
instance (n size : Int) : Decidable (okN n size) := by unfold okN; exact inferInstance

theorem New_loop {n size : Int} (h : okN n size) : ∀ (d k : Nat) (s : Int), (k : Int) + d = n →
    L_disk_New_5 (size, n, (k : Int), ()) (List.replicate k (zerosB size.toNat), (s, ()), ()) = some ((), (List.replicate n.toNat (zerosB size.toNat), (s, ()), ()))
  | 0, k, s, hk => by
    rw [Le_disk_New_5]
    unfold ltree_disk_New_5
    rw [cd_f (by omega), show n.toNat = k by omega]
  | d + 1, k, s, hk => by
    obtain ⟨h1, h2, h3, h4⟩ := h
    rw [Le_disk_New_5]
    unfold ltree_disk_New_5
    rw [cd_t (by omega), e_Repeat0 (by omega) (by omega)]
    simp only [Option.bind_some]
    rw [cd_t (by rw [List.length_replicate]; omega), i64id (by omega) (by omega), List.nil_append, show ((k : Int) + 1) = ((k + 1 : Nat) : Int) by omega, ← List.replicate_succ']
    exact New_loop ⟨h1, h2, h3, h4⟩ d (k + 1) s (by omega)

theorem e_New {n size : Int} (h : okN n size) : F_disk_New (n, size, ()) () = some (.inr ((), ((size, ()), List.replicate n.toNat (zerosB size.toNat), [], ()))) := by
  have h' := h
  obtain ⟨h1, h2, h3, h4⟩ := h
  rw [Fe_disk_New]
  unfold tree_disk_New
  rw [cd_f (by omega), cd_f (by omega), cd_f (by omega), cd_f (by omega)]
  have := New_loop h' n.toNat 0 size (by omega)
  rw [show ((0 : Nat) : Int) = 0 from rfl, show List.replicate 0 (zerosB size.toNat) = [] from rfl] at this
  rw [this]
  rfl

theorem e_New_no {n size : Int} (h : ¬ okN n size) : F_disk_New (n, size, ()) () = some (.inl ((), ())) := by
  rw [Fe_disk_New]
  unfold tree_disk_New
  unfold okN at h
  simp only [cond_decide]
  by_cases h1 : n < 1
  · rw [if_pos h1]
  · by_cases h2 : n > 256
    · rw [if_neg h1, if_pos h2]
    · by_cases h3 : size < 32
      · rw [if_neg h1, if_neg h2, if_pos h3]
      · rw [if_neg h1, if_neg h2, if_neg h3, if_pos (show size > 512 by omega)]

theorem new_DInv {n size : Int} (h : okN n size) : DInv size (List.replicate n.toNat (zerosB size.toNat)) [] := by
  obtain ⟨h1, h2, h3, h4⟩ := h
  refine ⟨h3, h4, by rw [List.length_replicate]; omega, ?_, fun p hp => (by cases hp), by simp⟩
  intro s hs
  rw [List.eq_of_mem_replicate hs, zerosB_size]
  omega

theorem keepS_sz {size : Int} {c : Nat → Nat} (hc : ∀ k, (c k : Int) ≤ size) : ∀ (l : List W2) (k : Nat) (safe : List ByteArray),
    (∀ s, s ∈ safe → (s.size : Int) = size) → (∀ p, p ∈ l → 0 ≤ p.1 ∧ p.1 < safe.length ∧ (p.2.size : Int) = size) → ∀ s, s ∈ keepS c k safe l → (s.size : Int) = size
  | [], k, safe, h, _, s, hs => h s hs
  | p :: l, k, safe, h, hp, s, hs => by
    refine keepS_sz hc l (k + 1) (layW (c k) safe p) (layW_sz (hc k) h (hp p List.mem_cons_self)) ?_ s hs
    intro q hq
    rw [layW_len]
    exact hp q (List.mem_cons_of_mem _ hq)

theorem DInv.keep {size : Int} {safe : List ByteArray} {pend : List W2} (h : DInv size safe pend) {c : Nat → Nat} (hc : ∀ k, (c k : Int) ≤ size) : DInv size (keepS c 0 safe pend) [] :=
  ⟨h.lo, h.hi, by rw [keepS_len]; exact h.n2, keepS_sz hc pend 0 safe h.sz h.pd, fun p hp => (by cases hp), by simp⟩

theorem DInv.size0 {size : Int} {safe : List ByteArray} {pend : List W2} (h : DInv size safe pend) : 0 ≤ size := by have := h.lo; omega

theorem clampN {size x : Int} (h : 0 ≤ size) : ((clampS size x).toNat : Int) ≤ size := by have := clampS_in (size := size) (x := x) h; omega

theorem DInv.write {size at_ : Int} {safe : List ByteArray} {pend : List W2} {t : ByteArray} (h : DInv size safe pend) (hm : mayW size safe at_ t = true) (hl : pend.length < 1000000) : DInv size safe (pend ++ [(at_, padW size t)]) := by
  unfold mayW at hm
  simp only [decide_eq_true_eq] at hm
  refine ⟨h.lo, h.hi, h.n2, h.sz, ?_, by rw [List.length_append, List.length_singleton]; omega⟩
  intro p hp
  rcases List.mem_append.1 hp with hp | hp
  · exact h.pd p hp
  · rw [List.mem_singleton] at hp
    subst hp
    exact ⟨hm.1.1, hm.1.2, padW_size hm.2⟩

/-- What an act answers. -/
def ansS (size : Int) (safe : List ByteArray) (pend : List W2) (a : ActR) : ByteArray × Bool :=
  if a.1 = 0 then readS safe pend a.2.1 else if a.1 = 1 then (ByteArray.empty, mayW size safe a.2.1 a.2.2.1) else if a.1 = 2 then (ByteArray.empty, true) else if a.1 = 3 then (ByteArray.empty, true) else (ByteArray.empty, false)
/-- What is safe, what is pending behind it. -/
def actS (size : Int) (safe : List ByteArray) (pend : List W2) (a : ActR) : List ByteArray × List W2 :=
  if a.1 = 0 then (safe, pend) else if a.1 = 1 then (safe, if mayW size safe a.2.1 a.2.2.1 = true then pend ++ [(a.2.1, padW size a.2.2.1)] else pend)
  else if a.1 = 2 then (keepS (fun _ => (clampS size size).toNat) 0 safe pend, [])
  else if a.1 = 3 then (keepS (fun k => (clampS size (a.2.2.2.getD k 0)).toNat) 0 safe pend, []) else (safe, pend)

theorem e_Do {size : Int} {safe : List ByteArray} {pend : List W2} {a : ActR} (h : DInv size safe pend) : F_disk_Disk_Do ((a.1, a.2.1, a.2.2.1, a.2.2.2, ()), ()) ((size, ()), safe, pend, ()) =
    some (((ansS size safe pend a).1, (ansS size safe pend a).2, ()), ((size, ()), (actS size safe pend a).1, (), (actS size safe pend a).2, ())) := by
  obtain ⟨d, at_, t, keep⟩ := a
  rw [Fe_disk_Disk_Do]
  unfold tree_disk_Disk_Do ansS actS
  dsimp only
  simp only [cond_eqi]
  by_cases h0 : d = 0
  · simp only [if_pos h0]
    rw [e_Read h.few]; rfl
  · simp only [if_neg h0]
    by_cases h1 : d = 1
    · simp only [if_pos h1]
      rw [e_Write h]; rfl
    · simp only [if_neg h1]
      by_cases h2 : d = 2
      · simp only [if_pos h2]
        rw [e_Flush h]; rfl
      · simp only [if_neg h2]
        by_cases h3 : d = 3
        · simp only [if_pos h3]
          rw [e_Crash h]; rfl
        · simp only [if_neg h3]

theorem act_len {size : Int} {safe : List ByteArray} {pend : List W2} {a : ActR} : (actS size safe pend a).1.length = safe.length := by
  unfold actS
  split
  · rfl
  · split
    · rfl
    · split
      · exact keepS_len _ _ _ _
      · split
        · exact keepS_len _ _ _ _
        · rfl

theorem act_DInv {size : Int} {safe : List ByteArray} {pend : List W2} {a : ActR} (h : DInv size safe pend) (hl : pend.length < 1000000) : DInv size (actS size safe pend a).1 (actS size safe pend a).2 := by
  unfold actS
  split
  · exact h
  · split
    · by_cases hm : mayW size safe a.2.1 a.2.2.1 = true
      · simp only [if_pos hm]; exact h.write hm hl
      · simp only [if_neg hm]; exact h
    · split
      · exact h.keep fun _ => clampN h.size0
      · split
        · exact h.keep fun _ => clampN h.size0
        · exact h

theorem act_pend {size : Int} {safe : List ByteArray} {pend : List W2} {a : ActR} : (actS size safe pend a).2.length ≤ pend.length + 1 := by
  unfold actS
  split
  · simp
  · split
    · dsimp only
      split
      · simp
      · simp
    · split
      · simp
      · split
        · simp
        · simp

/-- Behind some acts. -/
def actsS (size : Int) : List ByteArray → List W2 → List ActR → List ByteArray × List W2
  | safe, pend, [] => (safe, pend)
  | safe, pend, a :: l => actsS size (actS size safe pend a).1 (actS size safe pend a).2 l

theorem made_loop {n size : Int} {l : List ActR} : ∀ (d k : Nat) (safe : List ByteArray) (pend : List W2), DInv size safe pend → pend.length ≤ k → k + d = (l.take 200).length →
    L_law08_made_5 ((k : Int), ()) (pend, (n, size, l, ()), (size, ()), safe, ()) = some ((), ((actsS size safe pend ((l.take 200).drop k)).2, (size, ()), (actsS size safe pend ((l.take 200).drop k)).1, ()))
  | 0, k, safe, pend, h, hp, hk => by
    rw [Le_law08_made_5]
    unfold ltree_law08_made_5
    rw [List.drop_of_length_le (by omega)]
    rw [List.length_take] at hk
    simp only [cond_decide]
    by_cases h1 : (k : Int) < l.length
    · rw [if_pos h1, if_neg (show ¬ (k : Int) < 200 by omega)]; rfl
    · rw [if_neg h1]; rfl
  | d + 1, k, safe, pend, h, hp, hk => by
    rw [Le_law08_made_5]
    unfold ltree_law08_made_5
    have hkl : k < (l.take 200).length := by omega
    have hk2 := hkl
    rw [List.length_take] at hk2
    rw [cd_t (by omega), cd_t (by omega), cd_t (by omega), cd_t (by omega), e_Do h, Int.toNat_natCast]
    simp only [Option.bind_some]
    rw [i64id (by omega) (by omega), show ((k : Int) + 1) = ((k + 1 : Nat) : Int) by omega]
    have e1 : l.getD k (0, 0, ByteArray.empty, []) = (l.take 200)[k] := by rw [List.getElem_take, List.getD_eq_getElem?_getD, List.getElem?_eq_getElem (by omega)]; rfl
    rw [e1, made_loop d (k + 1) _ _ (act_DInv h (by omega)) (Nat.le_trans act_pend (by omega)) (by omega), List.drop_eq_getElem_cons hkl]
    rfl

def madeS (n size : Int) (l : List ActR) : List ByteArray × List W2 := actsS size (List.replicate n.toNat (zerosB size.toNat)) [] (l.take 200)

theorem e_made {n size : Int} {l : List ActR} (h : okN n size) : F_law08_made ((n, size, l, ()), ()) () = some (.inr ((), ((size, ()), (madeS n size l).1, (madeS n size l).2, ()))) := by
  rw [Fe_law08_made]
  unfold tree_law08_made
  rw [e_New h]
  simp only [Option.bind_some, Sum.elim_inr]
  have := made_loop (n := n) (l := l) (l.take 200).length 0 _ _ (new_DInv h) (by simp) (by omega)
  rw [show ((0 : Nat) : Int) = 0 from rfl] at this
  rw [this]
  rfl

theorem e_made_no {n size : Int} {l : List ActR} (h : ¬ okN n size) : F_law08_made ((n, size, l, ()), ()) () = some (.inl ((), ())) := by
  rw [Fe_law08_made]
  unfold tree_law08_made
  rw [e_New_no h]
  rfl

theorem acts_DInv {size : Int} : ∀ (l : List ActR) (safe : List ByteArray) (pend : List W2), DInv size safe pend → pend.length + l.length < 1000000 →
    DInv size (actsS size safe pend l).1 (actsS size safe pend l).2 ∧ (actsS size safe pend l).1.length = safe.length ∧ (actsS size safe pend l).2.length ≤ pend.length + l.length
  | [], safe, pend, h, _ => ⟨h, rfl, by simp [actsS]⟩
  | a :: l, safe, pend, h, hl => by
    rw [List.length_cons] at hl
    have hp := act_pend (size := size) (safe := safe) (pend := pend) (a := a)
    obtain ⟨h1, h2, h3⟩ := acts_DInv l _ _ (act_DInv (a := a) h (by omega)) (by omega)
    refine ⟨h1, by rw [← act_len (size := size) (safe := safe) (pend := pend) (a := a)]; exact h2, ?_⟩
    rw [List.length_cons]
    exact Nat.le_trans h3 (by omega)

theorem made_DInv {n size : Int} {l : List ActR} (h : okN n size) : DInv size (madeS n size l).1 (madeS n size l).2 ∧ ((madeS n size l).1.length : Int) = n ∧ (madeS n size l).2.length ≤ 200 := by
  have hl : (l.take 200).length ≤ 200 := by rw [List.length_take]; omega
  obtain ⟨h1, h2, h3⟩ := acts_DInv (l.take 200) _ _ (new_DInv h) (by rw [List.length_nil]; omega)
  refine ⟨h1, ?_, by unfold madeS; rw [List.length_nil] at h3; omega⟩
  unfold madeS
  rw [h2, List.length_replicate]
  obtain ⟨h4, _⟩ := h
  omega

theorem e_fixed : F_law08_fixed () () = some (true, ()) := by
  rw [Fe_law08_fixed]
  unfold tree_law08_fixed
  rw [e_New (show okN 2 32 by decide), e_New_no (show ¬ okN 2 31 by decide)]
  simp only [Option.bind_some, Sum.elim_inr, Sum.elim_inl]
  have hd := new_DInv (show okN 2 32 by decide)
  rw [e_Write hd]
  simp only [Option.bind_some]
  have hm : mayW 32 (List.replicate (2 : Int).toNat (zerosB (32 : Int).toNat)) 0 (ByteArray.mk #[97, 98]) = true := by decide
  rw [if_pos hm, hm]
  have hd' := hd.write hm (by simp)
  rw [e_Pending]
  simp only [Option.bind_some]
  rw [e_Crash hd']
  simp only [Option.bind_some]
  have hd2 := hd'.keep (c := fun k => (clampS 32 ((([] : List Int) ++ [1]).getD k 0)).toNat) fun k => clampN (by omega)
  rw [e_Read hd2.few, e_Zeros (by omega) (by omega), e_Sectors, e_Size, e_Pending]
  simp only [Option.bind_some, bytes_beq]
  decide
end Go.Proofs.Ytgfanlafbjbkaaa.S2
