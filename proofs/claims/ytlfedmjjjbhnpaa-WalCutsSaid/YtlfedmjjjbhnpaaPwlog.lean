/-
  A log of 8 sectors of 48 bytes and what its sectors say: append, drop, open; in plain words.
-/
import Derived.Test.YtlfedmjjjbhnpaaPwimg
set_option linter.unusedVariables false
set_option linter.unusedSimpArgs false
namespace Go.Proofs.Ytlfedmjjjbhnpaa.S2
open Go

/-- What the sectors say, their marks with it. -/
structure Reads (S : List ByteArray) (P : List W2) (D : Int → Option Rec4) : Prop where
  says : SaysD S P D
  mark : ∀ i : Int, 0 ≤ i → i < 8 → MarkOk (readS S P i).1 (D i)

theorem great_ge (S : List ByteArray) (P : List W2) : ∀ (d k : Nat) (g : Int), g ≤ greatS 0 S P d k g ∧ ∀ i : Nat, k ≤ i → i < k + d → (unfS (readS S P (0 + i)).1).2.2 = true → (unfS (readS S P (0 + i)).1).1 ≤ greatS 0 S P d k g
  | 0, k, g => ⟨Int.le_refl _, fun i h1 h2 => by omega⟩
  | d + 1, k, g => by
    unfold greatS
    have h := great_ge S P d (k + 1) (if (unfS (readS S P (0 + k)).1).2.2 = true then (if (unfS (readS S P (0 + k)).1).1 > g then (unfS (readS S P (0 + k)).1).1 else g) else g)
    have hg : g ≤ (if (unfS (readS S P (0 + k)).1).2.2 = true then (if (unfS (readS S P (0 + k)).1).1 > g then (unfS (readS S P (0 + k)).1).1 else g) else g) := by
      split
      · split <;> omega
      · omega
    refine ⟨by omega, fun i h1 h2 h3 => ?_⟩
    by_cases hi : i = k
    · subst hi
      have : (unfS (readS S P (0 + i)).1).1 ≤ (if (unfS (readS S P (0 + i)).1).2.2 = true then (if (unfS (readS S P (0 + i)).1).1 > g then (unfS (readS S P (0 + i)).1).1 else g) else g) := by
        rw [if_pos h3]; split <;> omega
      omega
    · exact h.2 i (by omega) (by omega) h3

theorem great_le (S : List ByteArray) (P : List W2) (B : Int) : ∀ (d k : Nat) (g : Int), g ≤ B → (∀ i : Nat, k ≤ i → i < k + d → (unfS (readS S P (0 + i)).1).2.2 = true → (unfS (readS S P (0 + i)).1).1 ≤ B) → greatS 0 S P d k g ≤ B
  | 0, k, g, hg, h => hg
  | d + 1, k, g, hg, h => by
    unfold greatS
    refine great_le S P B d (k + 1) _ ?_ (fun i h1 h2 => h i (by omega) (by omega))
    have := h k (Nat.le_refl _) (by omega)
    split
    · split
      · exact this (by assumption)
      · exact hg
    · exact hg

theorem open_reads {S : List ByteArray} {P : List W2} {D : Int → Option Rec4} {base mark B : Int} (h : Reads S P D) (hS : S.length = 8) (hP : P.length ≤ 1000000) (hb : 0 ≤ base ∧ base ≤ 4611686018427387904) (hB : ∀ i : Int, 0 ≤ i → i < 8 → markOf (D i) ≤ B) (hB0 : 0 ≤ B) (hB1 : B < 1000000) :
    ∃ g : Int, (0 ≤ g ∧ g ≤ B) ∧ (∀ i : Int, 0 ≤ i → i < 8 → D i ≠ none → markOf (D i) ≤ g) ∧
      F_wal_Open (0, 8, base, mark, ()) ((48, ()), S, P, ()) = some (.inr ((), ((48, ()), S, P, (0, 8, base, mark, g + 1, ()), chainR D 8 base mark, ()))) := by
  have g1 := great_ge S P 8 0 0
  have g2 := great_le S P B 8 0 0 hB0 (fun i h1 h2 h3 => by
    have hm := h.mark (0 + i) (by omega) (by omega)
    rw [(hm.1 h3).1]
    exact hB _ (by omega) (by omega))
  refine ⟨greatS 0 S P 8 0 0, ⟨g1.1, g2⟩, fun i h1 h2 h3 => ?_, ?_⟩
  · have hm := h.mark i h1 h2
    have hu := hm.2 h3
    have := g1.2 i.toNat (by omega) (by omega)
    rw [show (0 + ((i.toNat : Nat) : Int)) = i by omega] at this
    have := this hu
    rw [(hm.1 hu).1] at this
    exact this
  · have e := e_wOpen (size := 48) (S := S) (P := P) (fr := 0) (many := 8) (base := base) (mark := mark) hP (by omega) hb.1 (by decide) (by show 0 ≤ greatS 0 S P 8 0 0; exact g1.1)
    rw [if_pos ⟨by decide, by decide, by decide, by omega, hb.2⟩] at e
    rw [e]
    have e8 : (8 : Int).toNat = 8 := rfl
    rw [e8, stand_chain h.says base mark 8 []]
    have hn : nextS (greatS 0 S P 8 0 0) = greatS 0 S P 8 0 0 + 1 := by unfold nextS; rw [if_pos (by omega)]
    rw [hn]
    simp [lastI, tailI]

/-- What a log of 8 sectors of 48 bytes keeps: its numbers, and what its sectors say. -/
structure WLog (c : Nat) (base mark next : Int) (held : List W2) (S : List ByteArray) (P : List W2) (D : Int → Option Rec4) : Prop where
  w : WInv c base mark next held S P
  reads : Reads S P D
  last : lastI base held ≤ c
  stand : Stand D base mark held
  lt : ∀ i : Int, 0 ≤ i → i < 8 → markOf (D i) < next

/-- What a sector says behind an append. -/
def putD (D : Int → Option Rec4) (n : Int) (r : Rec4) : Int → Option Rec4 := fun i => if i = n % 8 then some r else D i

theorem read_wr {S : List ByteArray} {P : List W2} {at_ : Int} {f : ByteArray} (hm : mayW 48 S at_ f = true) (hf : (f.size : Int) = 48) (i : Int) : readS S (wrS 48 S P at_ f) i = if at_ = i then (f, true) else readS S P i := by
  unfold readS wrS
  rw [if_pos hm, lastW_snoc, pad_full hf]
  by_cases h : at_ = i
  · rw [if_pos h, if_pos h]
  · rw [if_neg h, if_neg h]

theorem mayA_ok {n a : Int} {next : Int} {held : List W2} {t : ByteArray} (h : mayA 48 8 next n a held t) (hn : 0 ≤ next ∧ next < 18446744073709551616) (h1 : 0 ≤ n ∧ n < 18446744073709551616) (ha : 0 ≤ a ∧ a < 18446744073709551616) : SecOk (frameB next (recB n a t) 48) (some (next, n, a, t)) :=
  ⟨rfl, h.1, hn, h1, ha⟩

theorem mayW_frame {S : List ByteArray} {n a next : Int} {t : ByteArray} (hS : S.length = 8) (h : okF next (recB n a t) 48) (h0 : 0 ≤ n) : mayW 48 S (sectI 0 8 n) (frameB next (recB n a t) 48) = true := by
  have hs := frameB_size h
  unfold mayW
  rw [decide_eq_true]
  unfold sectI
  exact ⟨by omega, by omega⟩

theorem Reads.put {S : List ByteArray} {P : List W2} {D : Int → Option Rec4} (h : Reads S P D) (hS : S.length = 8) {n : Int} {r : Rec4} {f : ByteArray} (h0 : 0 ≤ n) (hf : SecOk f (some r)) : Reads S (wrS 48 S P (sectI 0 8 n) f) (putD D n r) := by
  have hs := hf.sect.sz
  have hm : mayW 48 S (sectI 0 8 n) f = true := by
    unfold mayW
    rw [decide_eq_true]
    unfold sectI
    exact ⟨by omega, by omega⟩
  have he : sectI 0 8 n = n % 8 := by unfold sectI; omega
  refine ⟨fun i h1 h2 => ?_, fun i h1 h2 => ?_⟩
  · rw [read_wr hm hs]
    unfold putD
    by_cases hi : sectI 0 8 n = i
    · rw [if_pos hi, if_pos (by omega)]; exact hf.says
    · rw [if_neg hi, if_neg (by omega)]; exact h.says i h1 h2
  · rw [read_wr hm hs]
    unfold putD
    by_cases hi : sectI 0 8 n = i
    · rw [if_pos hi, if_pos (by omega)]; exact hf.mark
    · rw [if_neg hi, if_neg (by omega)]; exact h.mark i h1 h2

theorem Stand.snoc {D : Int → Option Rec4} {base mark : Int} {held : List W2} (h : Stand D base mark held) (h8 : held.length < 8) {next : Int} {t : ByteArray} : Stand (putD D (lastI base held + 1) (next, lastI base held + 1, tailI mark held, t)) base mark (held ++ [(next, t)]) := by
  intro j hj
  rw [List.length_append, List.length_singleton] at hj
  unfold putD
  by_cases hj' : j < held.length
  · have := h j hj'
    rw [if_neg (by unfold lastI; omega), this, getD_app _ _ _ _ hj', List.take_append_of_le_length (by omega)]
  · obtain rfl : j = held.length := by omega
    rw [if_pos (by unfold lastI; omega), List.take_append_of_le_length (Nat.le_refl _), List.take_length]
    have : (held ++ [(next, t)]).getD held.length (0, ByteArray.empty) = (next, t) := by simp [List.getD]
    rw [this]
    unfold lastI
    rw [show base + (held.length : Int) + 1 = base + 1 + held.length by omega]

theorem WLog.append {c : Nat} {base mark next : Int} {held : List W2} {S : List ByteArray} {P : List W2} {D : Int → Option Rec4} (h : WLog c base mark next held S P D) (hc : c + 1 ≤ 1000) {t : ByteArray} (hm : mayA 48 8 next (lastI base held + 1) (tailI mark held) held t) :
    WLog (c + 1) base mark (next + 1) (held ++ [(next, t)]) S (wrS 48 S P (sectI 0 8 (lastI base held + 1)) (frameB next (recB (lastI base held + 1) (tailI mark held) t) 48)) (putD D (lastI base held + 1) (next, lastI base held + 1, tailI mark held, t)) := by
  have h8 : held.length ≠ 8 := by have := hm.2.1; omega
  have hl := h.w.l.last
  have hlen := h.w.l.len
  have hn := h.w.nc
  have hn1 := h.w.n1
  have ht := h.w.tail
  have hla := h.last
  refine ⟨h.w.append hc _ _ h8, h.reads.put h.w.s8 (by omega) (mayA_ok hm (by omega) (by omega) (by omega)), ?_, h.stand.snoc (by omega), ?_⟩
  · rw [lastI_snoc]; omega
  · intro i h1 h2
    unfold putD
    split
    · show next < next + 1; omega
    · have := h.lt i h1 h2; omega

theorem tailI_tailI (mark : Int) (a b : List W2) : tailI (tailI mark a) b = tailI mark (a ++ b) := by
  unfold tailI
  cases hb : b.getLast? with
  | some p => rw [List.getLast?_append, hb]; rfl
  | none =>
    have : b = [] := List.getLast?_eq_none_iff.1 hb
    subst this
    rw [List.append_nil]

theorem WLog.drop {c : Nat} {base mark next : Int} {held : List W2} {S : List ByteArray} {P : List W2} {D : Int → Option Rec4} (h : WLog c base mark next held S P D) {k : Nat} (hk : k ≤ held.length) :
    WLog c (base + k) (tailI mark (held.take k)) next (held.drop k) S P D := by
  have hl := h.last
  have hc := h.w.c1
  have hlast : lastI (base + k) (held.drop k) = lastI base held := by unfold lastI; rw [List.length_drop]; omega
  refine ⟨h.w.drop hk (by unfold lastI at hl; omega), h.reads, by rw [hlast]; exact hl, ?_, h.lt⟩
  intro j hj
  rw [List.length_drop] at hj
  have := h.stand (k + j) (by omega)
  rw [show base + (k : Int) + 1 + j = base + 1 + ((k + j : Nat) : Int) by omega, this, tailI_tailI]
  have e1 : (held.drop k).getD j (0, ByteArray.empty) = held.getD (k + j) (0, ByteArray.empty) := by
    rw [List.getD_eq_getElem?_getD, List.getD_eq_getElem?_getD, List.getElem?_drop]
  have e2 : held.take k ++ (held.drop k).take j = held.take (k + j) := by rw [List.take_add]
  rw [e1, e2]

/-- Flushed the disk says the same. -/
theorem Reads.flush {S : List ByteArray} {P : List W2} {D : Int → Option Rec4} (h : Reads S P D) (hd : DInv 48 S P) (hS : S.length = 8) : Reads (flushS 48 S P) [] D := by
  have he : ∀ i : Int, 0 ≤ i → i < 8 → readS (flushS 48 S P) [] i = ((readS S P i).1, true) := fun i h1 h2 => by
    show safeS (flushS 48 S P) i = _
    rw [flush_at hd, if_pos ⟨h1, by omega⟩]
  refine ⟨fun i h1 h2 => ?_, fun i h1 h2 => ?_⟩
  · rw [he i h1 h2]; exact h.says i h1 h2
  · rw [he i h1 h2]; exact h.mark i h1 h2

theorem WLog.sync {c : Nat} {base mark next : Int} {held : List W2} {S : List ByteArray} {P : List W2} {D : Int → Option Rec4} (h : WLog c base mark next held S P D) : WLog c base mark next held (flushS 48 S P) [] D :=
  ⟨h.w.sync, h.reads.flush h.w.d h.w.s8, h.last, h.stand, h.lt⟩

theorem wlog_zero : WLog 0 0 0 1 [] zero8 [] (fun _ => none) := by
  refine ⟨winv_zero8, ⟨fun i h1 h2 => ?_, fun i h1 h2 => ?_⟩, by decide, fun j hj => (by simp at hj), fun i h1 h2 => by show (0 : Int) < 1; decide⟩
  · unfold saysS; rw [read_zero8]; rfl
  · unfold MarkOk; rw [read_zero8]; exact ⟨fun h => (by cases h), fun h => absurd rfl h⟩

/-- What an append makes of a log. -/
theorem WLog.e_append {c : Nat} {base mark next : Int} {held : List W2} {S : List ByteArray} {P : List W2} {D : Int → Option Rec4} (h : WLog c base mark next held S P D) (hc : c + 1 ≤ 1000) {t : ByteArray} (ht : t.size ≤ 281474976710656) :
    (mayA 48 8 next (lastI base held + 1) (tailI mark held) held t ∧ F_wal_Log_Append (t, ()) ((0, 8, base, mark, next, ()), (48, ()), held, S, P, ()) = some (true, ((0, 8, base, mark, next + 1, ()), (48, ()), (), S, (), held ++ [(next, t)], wrS 48 S P (sectI 0 8 (lastI base held + 1)) (frameB next (recB (lastI base held + 1) (tailI mark held) t) 48), ()))) ∨
    (¬ mayA 48 8 next (lastI base held + 1) (tailI mark held) held t ∧ F_wal_Log_Append (t, ()) ((0, 8, base, mark, next, ()), (48, ()), held, S, P, ()) = some (false, ((0, 8, base, mark, next, ()), (48, ()), (), S, (), held, P, ()))) := by
  have hn := h.w.nc
  have hn1 := h.w.n1
  have htl := h.w.tail
  have hc1 := h.w.c1
  have e := e_Append (fr := 0) (many := 8) (size := 48) (mark := mark) (next := next) h.w.l h.w.d ht (by decide) (by decide) ⟨by omega, by omega⟩ ⟨by omega, by omega⟩
  by_cases hm : mayA 48 8 next (lastI base held + 1) (tailI mark held) held t
  · rw [if_pos hm] at e; exact .inl ⟨hm, e⟩
  · rw [if_neg hm] at e; exact .inr ⟨hm, e⟩

/-! ### the texts of a log -/

theorem texts_loop {base mark next : Int} {held : List W2} {S : List ByteArray} {P : List W2} (h : LInv 8 base held) (hb : base ≤ 4611686018427387904) : ∀ (d j : Nat), j + d = held.length →
    L_law10_texts_3 (base + 1 + j, ()) ((0, 8, base, mark, next, ()), (48, ()), held, S, P, (held.take j).map (·.2), ()) = some ((), ((0, 8, base, mark, next, ()), (48, ()), held, S, P, held.map (·.2), ()))
  | 0, j, hd => by
    have hl := h.last
    rw [Le_law10_texts_3]
    unfold ltree_law10_texts_3
    rw [e_Last h]
    simp only [Option.bind_some]
    rw [cd_f (by unfold lastI; omega), List.take_of_length_le (by omega)]
  | d + 1, j, hd => by
    have hl := h.last
    have hlen := h.len
    have hb0 := h.base0
    rw [Le_law10_texts_3]
    unfold ltree_law10_texts_3
    rw [e_Last h]
    simp only [Option.bind_some]
    rw [cd_t (by unfold lastI; omega), cd_t (by rw [List.length_map, List.length_take]; omega), e_logText h (by omega) (by omega)]
    simp only [Option.bind_some]
    rw [cd_t (by rw [List.length_map, List.length_take]; omega), u64id (by omega) (by omega)]
    have e : (textI base held (base + 1 + (j : Int))).1 = (held.getD j (0, ByteArray.empty)).2 := by
      unfold textI
      rw [if_pos (by unfold lastI; omega), show (base + 1 + (j : Int) - base - 1).toNat = j by omega]
    rw [e]
    have e2 : (held.take j).map (·.2) ++ ([] ++ [(held.getD j (0, ByteArray.empty)).2]) = (held.take (j + 1)).map (·.2) := by
      rw [List.nil_append, List.take_succ_eq_append_getElem (by omega), List.map_append, List.getD_eq_getElem?_getD, List.getElem?_eq_getElem (by omega)]
      rfl
    rw [e2, show base + 1 + (j : Int) + 1 = base + 1 + ((j + 1 : Nat) : Int) by omega]
    exact texts_loop h hb d (j + 1) (by omega)
end Go.Proofs.Ytlfedmjjjbhnpaa.S2
