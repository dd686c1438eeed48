/- The document's disk, in plain words. -/
import Derived.Test.YtlfedmjjjbhnpaaGrdisk
import Derived.Test.YtlfedmjjjbhnpaaPdisk
set_option linter.unusedVariables false
set_option linter.unusedSimpArgs false
namespace Go.Proofs.Ytlfedmjjjbhnpaa.S2
open Go

/-- The pending writes, as acts. -/
def pendR (P : List W2) : List ActR := P.map fun p => (0, p.1, p.2, [])

theorem pendR_len (P : List W2) : (pendR P).length = P.length := by simp [pendR]

theorem pendR_snoc (P : List W2) (p : W2) : pendR (P ++ [p]) = pendR P ++ [(0, p.1, p.2, [])] := by simp [pendR]

theorem pendR_get (P : List W2) {k : Nat} (h : k < P.length) : (pendR P).getD k (0, 0, ByteArray.empty, []) = (0, P[k].1, P[k].2, []) := by simp [pendR, List.getD, h]

theorem rNew_loop {n size : Int} (h : okN n size) : ∀ (d k : Nat) (s : Int), (k : Int) + d = n →
    L_ref08_New_5 (n, size, (k : Int), ()) (List.replicate k (zerosB size.toNat), (s, ()), ()) = some ((), (List.replicate n.toNat (zerosB size.toNat), (s, ()), ()))
  | 0, k, s, hk => by
    rw [Le_ref08_New_5]
    unfold ltree_ref08_New_5
    rw [cd_f (by omega), show n.toNat = k by omega]
  | d + 1, k, s, hk => by
    obtain ⟨h1, h2, h3, h4⟩ := h
    rw [Le_ref08_New_5]
    unfold ltree_ref08_New_5
    rw [cd_t (by omega), e_Zeros (by omega) (by omega)]
    simp only [Option.bind_some]
    rw [cd_t (by rw [List.length_replicate]; omega), i64id (by omega) (by omega), List.nil_append, show ((k : Int) + 1) = ((k + 1 : Nat) : Int) by omega, ← List.replicate_succ']
    exact rNew_loop ⟨h1, h2, h3, h4⟩ d (k + 1) s (by omega)

theorem r_New {n size : Int} (h : okN n size) : F_ref08_New (n, size, ()) () = some (.inr ((), ((size, ()), List.replicate n.toNat (zerosB size.toNat), [], ()))) := by
  have h' := h
  obtain ⟨h1, h2, h3, h4⟩ := h
  rw [Fe_ref08_New]
  unfold tree_ref08_New
  rw [cd_f (by omega), cd_f (by omega), cd_f (by omega), cd_f (by omega)]
  have := rNew_loop h' n.toNat 0 size (by omega)
  rw [show ((0 : Nat) : Int) = 0 from rfl, show List.replicate 0 (zerosB size.toNat) = [] from rfl] at this
  rw [this]
  rfl

theorem r_New_no {n size : Int} (h : ¬ okN n size) : F_ref08_New (n, size, ()) () = some (.inl ((), ())) := by
  rw [Fe_ref08_New]
  unfold tree_ref08_New
  unfold okN at h
  simp only [cond_decide]
  by_cases h1 : n < 1
  · rw [if_pos h1]
  · by_cases h2 : n > 256
    · rw [if_neg h1, if_pos h2]
    · by_cases h3 : size < 32
      · rw [if_neg h1, if_neg h2, if_pos h3]
      · rw [if_neg h1, if_neg h2, if_neg h3, if_pos (show size > 512 by omega)]

theorem rRead_loop {size at_ : Int} {S : List ByteArray} {P : List W2} (hP : P.length ≤ 1000000) : ∀ (d k : Nat) (s : ByteArray), k + d = P.length →
    L_ref08_Disk_Read_5 (at_, s, (k : Int), ()) ((size, ()), S, pendR P, ()) = some (((match lastW (P.drop k) at_ with | some t => t | none => s), ()), ((size, ()), S, pendR P, ()))
  | 0, k, s, hk => by
    rw [Le_ref08_Disk_Read_5]
    unfold ltree_ref08_Disk_Read_5
    rw [cd_f (by rw [pendR_len]; omega), List.drop_of_length_le (by omega)]
    rfl
  | d + 1, k, s, hk => by
    have hkl : k < P.length := by omega
    rw [Le_ref08_Disk_Read_5]
    unfold ltree_ref08_Disk_Read_5
    rw [cd_t (by rw [pendR_len]; omega), cd_t (by omega), cd_t (by rw [pendR_len]; omega), Nat.zero_add, Int.toNat_natCast, pendR_get P hkl, cond_eqi, List.drop_eq_getElem_cons hkl, lastW_cons, i64id (by omega) (by omega), show ((k : Int) + 1) = ((k + 1 : Nat) : Int) by omega]
    by_cases h1 : P[k].1 = at_
    · rw [if_pos h1, cd_t (by omega), cd_t (by rw [pendR_len]; omega), rRead_loop hP d (k + 1) _ (by omega)]
      cases lastW (P.drop (k + 1)) at_ with
      | some t => rfl
      | none => dsimp only; rw [if_pos h1]
    · rw [if_neg h1, rRead_loop hP d (k + 1) _ (by omega)]
      cases lastW (P.drop (k + 1)) at_ with
      | some t => rfl
      | none => dsimp only; rw [if_neg h1]

theorem lastW_out {size at_ : Int} {S : List ByteArray} : ∀ (P : List W2), (∀ p, p ∈ P → 0 ≤ p.1 ∧ p.1 < S.length ∧ (p.2.size : Int) = size) → ¬ (0 ≤ at_ ∧ at_ < S.length) → lastW P at_ = none
  | [], _, _ => rfl
  | p :: l, h, hn => by
    have h1 := h p List.mem_cons_self
    rw [lastW_cons, lastW_out l (fun q hq => h q (List.mem_cons_of_mem _ hq)) hn]
    dsimp only
    rw [if_neg (fun e => hn (by omega))]

theorem r_Read {size at_ : Int} {S : List ByteArray} {P : List W2} (h : DInv size S P) : F_ref08_Disk_Read (at_, ()) ((size, ()), S, pendR P, ()) = some (((readS S P at_).1, (readS S P at_).2, ()), ()) := by
  rw [Fe_ref08_Disk_Read]
  unfold tree_ref08_Disk_Read
  by_cases hin : 0 ≤ at_ ∧ at_ < (S.length : Int)
  · rw [cd_f (by omega), cd_f (by omega), cd_t (by omega), cd_t (by omega)]
    have := rRead_loop (size := size) (at_ := at_) (S := S) h.few P.length 0 (S.getD (0 + at_.toNat) ByteArray.empty) (by omega)
    rw [show ((0 : Nat) : Int) = 0 from rfl, List.drop_zero] at this
    rw [this]
    unfold readS
    cases lastW P at_ with
    | some t => rfl
    | none =>
      unfold safeS
      rw [if_pos hin, Nat.zero_add]
      rfl
  · have e1 : readS S P at_ = (ByteArray.empty, false) := by
      unfold readS
      rw [lastW_out P h.pd hin]
      unfold safeS
      rw [if_neg hin]
    rw [e1]
    simp only [cond_decide]
    by_cases h0 : at_ < 0
    · rw [if_pos h0]; rfl
    · rw [if_neg h0, if_pos (show at_ ≥ (S.length : Int) by omega)]; rfl

theorem r_Write {size at_ : Int} {S : List ByteArray} {P : List W2} {t : ByteArray} (hd : DInv size S P) : F_ref08_Disk_Write (at_, t, ()) ((size, ()), S, pendR P, ()) =
    some (mayW size S at_ t, ((size, ()), S, (), pendR (if mayW size S at_ t = true then P ++ [(at_, padW size t)] else P), ())) := by
  rw [Fe_ref08_Disk_Write]
  unfold tree_ref08_Disk_Write mayW
  have h1 := hd.lo
  have h2 := hd.hi
  simp only [cond_decide]
  by_cases h0 : at_ < 0
  · rw [if_pos h0, decide_eq_false (show ¬ ((0 ≤ at_ ∧ at_ < (S.length : Int)) ∧ (t.size : Int) ≤ size) by omega)]; rfl
  · rw [if_neg h0]
    by_cases h3 : at_ ≥ (S.length : Int)
    · rw [if_pos h3, decide_eq_false (show ¬ ((0 ≤ at_ ∧ at_ < (S.length : Int)) ∧ (t.size : Int) ≤ size) by omega)]; rfl
    · rw [if_neg h3]
      by_cases hs : (t.size : Int) > size
      · rw [if_pos hs, decide_eq_false (show ¬ ((0 ≤ at_ ∧ at_ < (S.length : Int)) ∧ (t.size : Int) ≤ size) by omega)]; rfl
      · rw [if_neg hs, decide_eq_true (show (0 ≤ at_ ∧ at_ < (S.length : Int)) ∧ (t.size : Int) ≤ size by omega), i64id (by omega) (by omega), e_Zeros (by omega) (by omega)]
        simp only [Option.bind_some, if_true]
        rw [if_pos (by rw [zerosB_size]; omega), if_pos (by have := hd.few; rw [pendR_len]; omega), pendR_snoc, List.nil_append]
        rfl

theorem rstep {α : Type} {size c : Int} {S : List ByteArray} {P : List W2} (h : DInv size S P) {k : Nat} (hk : k < P.length) (h0 : 0 ≤ c) (h1 : c ≤ size) (K : List ByteArray → Option α) (g : ActR) (hg : g = (0, P[k].1, P[k].2, [])) :
     (cond (decide (0 ≤ c))
     (cond (decide (c ≤ (↑g.snd.snd.fst.size : Int)))
      (cond (decide (0 ≤ g.snd.fst))
       (cond (decide (g.snd.fst < (↑S.length : Int)))
        (cond (decide (0 ≤ c))
         (cond (decide (c ≤ (↑(S.getD (0 + g.snd.fst.toNat) ByteArray.empty).size : Int)))
          (cond (decide ((g.snd.snd.fst.extract 0 c.toNat).size + ((S.getD (0 + g.snd.fst.toNat) ByteArray.empty).extract c.toNat (S.getD (0 + g.snd.fst.toNat) ByteArray.empty).size).size ≤ 9223372036854775807))
           (cond (decide (0 ≤ g.snd.fst))
            (cond (decide (g.snd.fst < (↑S.length : Int)))
             (K (S.set (0 + g.snd.fst.toNat) (g.snd.snd.fst.extract 0 c.toNat ++ (S.getD (0 + g.snd.fst.toNat) ByteArray.empty).extract c.toNat (S.getD (0 + g.snd.fst.toNat) ByteArray.empty).size)))
             none) none) none) none) none) none) none) none) none) = K (layW c.toNat S P[k]) := by
  subst hg
  have hp := h.pd P[k] (List.getElem_mem hk)
  have hlo := h.lo
  have hhi := h.hi
  have hs := h.sz _ (getD_mem (l := S) (i := P[k].1.toNat) (d := ByteArray.empty) (by omega))
  dsimp only
  rw [Nat.zero_add, cd_t h0, cd_t (by omega), cd_t hp.1, cd_t hp.2.1, cd_t h0, cd_t (by omega), cd_t (by rw [ByteArray.size_extract, ByteArray.size_extract]; omega), cd_t hp.1, cd_t hp.2.1]
  rfl

theorem rstep0 {α : Type} {size : Int} {S : List ByteArray} {P : List W2} (h : DInv size S P) {k : Nat} (hk : k < P.length) (K : List ByteArray → Option α) (g : ActR) (hg : g = (0, P[k].1, P[k].2, [])) :
     (cond (decide (0 ≤ g.snd.fst))
       (cond (decide (g.snd.fst < (↑S.length : Int)))
          (cond (decide ((g.snd.snd.fst.extract 0 0).size + ((S.getD (0 + g.snd.fst.toNat) ByteArray.empty).extract 0 (S.getD (0 + g.snd.fst.toNat) ByteArray.empty).size).size ≤ 9223372036854775807))
           (cond (decide (0 ≤ g.snd.fst))
            (cond (decide (g.snd.fst < (↑S.length : Int)))
             (K (S.set (0 + g.snd.fst.toNat) (g.snd.snd.fst.extract 0 0 ++ (S.getD (0 + g.snd.fst.toNat) ByteArray.empty).extract 0 (S.getD (0 + g.snd.fst.toNat) ByteArray.empty).size)))
             none) none) none) none) none) = K (layW 0 S P[k]) := by
  subst hg
  have hp := h.pd P[k] (List.getElem_mem hk)
  have hlo := h.lo
  have hhi := h.hi
  have hs := h.sz _ (getD_mem (l := S) (i := P[k].1.toNat) (d := ByteArray.empty) (by omega))
  dsimp only
  rw [Nat.zero_add, cd_t hp.1, cd_t hp.2.1, cd_t (by rw [ByteArray.size_extract, ByteArray.size_extract]; omega), cd_t hp.1, cd_t hp.2.1]
  rfl

theorem rCrash_loop {size : Int} {P : List W2} {keep : List Int} : ∀ (d k : Nat) (S : List ByteArray), DInv size S P → k + d = P.length →
    L_ref08_Disk_Crash_1 (keep, (k : Int), ()) ((size, ()), S, pendR P, ()) = some ((), ((size, ()), keepS (fun k => (clampS size (keep.getD k 0)).toNat) k S (P.drop k), pendR P, ()))
  | 0, k, S, h, hk => by
    rw [Le_ref08_Disk_Crash_1]
    unfold ltree_ref08_Disk_Crash_1
    rw [cd_f (by rw [pendR_len]; omega), List.drop_of_length_le (by omega)]
    rfl
  | d + 1, k, S, h, hk => by
    have hkl : k < P.length := by omega
    have hf := h.few
    have hs0 := h.size0
    have hlo := h.lo
    have hcl := clampS_in (size := size) (x := keep.getD k 0) hs0
    have next := rCrash_loop (keep := keep) d (k + 1) _ (h.lay (c := (clampS size (keep.getD k 0)).toNat) (by omega) (List.getElem_mem hkl)) (by omega)
    have ek : keepS (fun k => (clampS size (keep.getD k 0)).toNat) k S (P.drop k) = keepS (fun k => (clampS size (keep.getD k 0)).toNat) (k + 1) (layW (clampS size (keep.getD k 0)).toNat S P[k]) (P.drop (k + 1)) := by
      rw [List.drop_eq_getElem_cons hkl]; rfl
    rw [ek, Le_ref08_Disk_Crash_1]
    unfold ltree_ref08_Disk_Crash_1
    have hg : (pendR P).getD (0 + k) (0, 0, ByteArray.empty, []) = (0, P[k].1, P[k].2, []) := by rw [Nat.zero_add]; exact pendR_get P hkl
    have hb : (k : Int) < ((pendR P).length : Int) := by rw [pendR_len]; omega
    have hn0 : (0 : Int) ≤ (k : Int) := by omega
    have hnx : IntKind.i64.wrap ((k : Int) + 1) = ((k + 1 : Nat) : Int) := by rw [i64id (by omega) (by omega)]; omega
    rw [cd_t hb, hnx]
    simp only [Int.toNat_natCast]
    by_cases hkk : (k : Int) < keep.length
    · rw [cd_t hkk, cd_t hn0, cd_t hkk]
      by_cases h1 : keep.getD k 0 < 0
      · have ec : clampS size (keep.getD k 0) = 0 := by
          unfold clampS
          rw [if_pos (show 0 > keep.getD k 0 by omega), if_neg (show ¬ size < 0 by omega)]
        rw [cd_t h1, cd_f (show ¬ (0 > size) by omega), cd_t hn0, cd_t hb]
        rw [rstep0 h hkl (fun z => L_ref08_Disk_Crash_1 (keep, ((k + 1 : Nat) : Int), ()) ((size, ()), z, pendR P, ())) _ hg]
        rw [ec] at next
        rw [ec]
        exact next
      · by_cases h2 : keep.getD k 0 > size
        · have ec : clampS size (keep.getD k 0) = size := by
            unfold clampS
            rw [if_neg (show ¬ 0 > keep.getD k 0 by omega), if_pos (show size < keep.getD k 0 by omega)]
          rw [cd_f h1, cd_t h2, cd_t hn0, cd_t hb]
          rw [rstep h hkl hs0 (Int.le_refl _) (fun z => L_ref08_Disk_Crash_1 (keep, ((k + 1 : Nat) : Int), ()) ((size, ()), z, pendR P, ())) _ hg]
          rw [ec] at next
          rw [ec]
          exact next
        · have ec : clampS size (keep.getD k 0) = keep.getD k 0 := by
            unfold clampS
            rw [if_neg (show ¬ 0 > keep.getD k 0 by omega), if_neg (show ¬ size < keep.getD k 0 by omega)]
          rw [cd_f h1, cd_f h2, cd_t hn0, cd_t hb]
          rw [rstep h hkl (by omega) (by omega) (fun z => L_ref08_Disk_Crash_1 (keep, ((k + 1 : Nat) : Int), ()) ((size, ()), z, pendR P, ())) _ hg]
          rw [ec] at next
          rw [ec]
          exact next
    · have ez : keep.getD k 0 = 0 := by rw [List.getD_eq_getElem?_getD, List.getElem?_eq_none (by omega)]; rfl
      have ec : clampS size (keep.getD k 0) = 0 := by
        rw [ez]
        unfold clampS
        rw [if_neg (show ¬ (0 : Int) > 0 by omega), if_neg (show ¬ size < 0 by omega)]
      rw [cd_f hkk, cd_f (show ¬ (0 > size) by omega), cd_t hn0, cd_t hb]
      rw [rstep0 h hkl (fun z => L_ref08_Disk_Crash_1 (keep, ((k + 1 : Nat) : Int), ()) ((size, ()), z, pendR P, ())) _ hg]
      rw [ec] at next
      rw [ec]
      exact next

theorem r_Crash {size : Int} {S : List ByteArray} {P : List W2} {keep : List Int} (h : DInv size S P) : F_ref08_Disk_Crash (keep, ()) ((size, ()), S, pendR P, ()) = some ((), ((size, ()), keepS (fun k => (clampS size (keep.getD k 0)).toNat) 0 S P, (), [], ())) := by
  rw [Fe_ref08_Disk_Crash]
  unfold tree_ref08_Disk_Crash
  have := rCrash_loop (keep := keep) P.length 0 S h (by omega)
  rw [show ((0 : Nat) : Int) = 0 from rfl] at this
  rw [this]
  rfl

theorem rFlush_loop {size : Int} {S : List ByteArray} {P : List W2} (hP : P.length ≤ 1000000) : ∀ (d k : Nat), k + d = P.length →
    L_ref08_Disk_Flush_2 ((k : Int), ()) ((size, ()), S, pendR P, List.replicate k size, ()) = some ((), ((size, ()), S, pendR P, List.replicate P.length size, ()))
  | 0, k, hk => by
    rw [Le_ref08_Disk_Flush_2]
    unfold ltree_ref08_Disk_Flush_2
    rw [cd_f (by rw [pendR_len]; omega), show k = P.length by omega]
  | d + 1, k, hk => by
    rw [Le_ref08_Disk_Flush_2]
    unfold ltree_ref08_Disk_Flush_2
    rw [cd_t (by rw [pendR_len]; omega), cd_t (by rw [List.length_replicate]; omega), i64id (by omega) (by omega), List.nil_append, ← List.replicate_succ', show ((k : Int) + 1) = ((k + 1 : Nat) : Int) by omega]
    exact rFlush_loop hP d (k + 1) (by omega)

theorem r_Flush {size : Int} {S : List ByteArray} {P : List W2} (h : DInv size S P) : F_ref08_Disk_Flush () ((size, ()), S, pendR P, ()) = some ((), ((size, ()), flushS size S P, (), [], ())) := by
  rw [Fe_ref08_Disk_Flush]
  unfold tree_ref08_Disk_Flush
  have := rFlush_loop (size := size) (S := S) h.few P.length 0 (by omega)
  rw [show ((0 : Nat) : Int) = 0 from rfl, show List.replicate 0 size = [] from rfl] at this
  rw [this]
  simp only [Option.bind_some]
  rw [r_Crash h, all_flush]
  rfl

end Go.Proofs.Ytlfedmjjjbhnpaa.S2
