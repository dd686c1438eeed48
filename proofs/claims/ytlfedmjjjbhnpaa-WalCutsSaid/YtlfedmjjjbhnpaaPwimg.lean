/-
  What the sectors of a log of 8 sectors of 48 bytes say: records by their sectors, in plain words.
-/
import Derived.Test.YtlfedmjjjbhnpaaPwapp
set_option linter.unusedVariables false
set_option linter.unusedSimpArgs false
namespace Go.Proofs.Ytlfedmjjjbhnpaa.S2
open Go

/-- A record of a sector: its mark, number, the mark ahead of it, its text. -/
abbrev Rec4 := Int × Int × Int × ByteArray

/-- What a sector says. -/
def saysS (s : ByteArray) : Option Rec4 :=
  let u := unfS s
  let a := takS u.2.1
  let b := takS a.2.1
  if u.2.2 = true ∧ a.2.2 = true ∧ b.2.2 = true then some (u.1, a.1, b.1, b.2.1) else none

/-- The record that stands there, if it is the one looked for. -/
def pickR (n ahead : Int) : Option Rec4 → Int × ByteArray × Bool
  | some (m, k, a, t) => if k = n ∧ a = ahead then (m, t, true) else (0, ByteArray.empty, false)
  | none => (0, ByteArray.empty, false)

theorem stand_says {fr many n ahead : Int} {S : List ByteArray} {P : List W2} : standS fr many S P n ahead = pickR n ahead (saysS (readS S P (sectI fr many n)).1) := by
  unfold standS saysS
  generalize unfS (readS S P (sectI fr many n)).1 = u
  simp only
  generalize takS u.2.1 = a
  generalize takS a.2.1 = b
  by_cases h1 : u.2.2 = true
  · by_cases h2 : a.2.2 = true
    · by_cases h3 : b.2.2 = true
      · rw [if_pos (show u.2.2 = true ∧ a.2.2 = true ∧ b.2.2 = true from ⟨h1, h2, h3⟩)]
        unfold pickR
        simp only [h1, h2, h3, true_and]
      · rw [if_neg (fun h => h3 h.2.2.1), if_neg (fun h => h3 h.2.2)]; rfl
    · rw [if_neg (fun h => h2 h.2.1), if_neg (fun h => h2 h.2.1)]; rfl
  · rw [if_neg (fun h => h1 h.1), if_neg (fun h => h1 h.1)]; rfl

/-- The records that stand one behind the other, by what the sectors say. -/
def chainR (D : Int → Option Rec4) : Nat → Int → Int → List W2
  | 0, _, _ => []
  | d + 1, n, a => if (pickR (n + 1) a (D ((n + 1) % 8))).2.2 = true then ((pickR (n + 1) a (D ((n + 1) % 8))).1, (pickR (n + 1) a (D ((n + 1) % 8))).2.1) :: chainR D d (n + 1) (pickR (n + 1) a (D ((n + 1) % 8))).1 else []

theorem chainR_succ (D : Int → Option Rec4) (d : Nat) (n a : Int) : chainR D (d + 1) n a = if (pickR (n + 1) a (D ((n + 1) % 8))).2.2 = true then ((pickR (n + 1) a (D ((n + 1) % 8))).1, (pickR (n + 1) a (D ((n + 1) % 8))).2.1) :: chainR D d (n + 1) (pickR (n + 1) a (D ((n + 1) % 8))).1 else [] := rfl

theorem tailI_snoc (mark : Int) (held : List W2) (p : W2) : tailI mark (held ++ [p]) = p.1 := by
  unfold tailI
  rw [List.getLast?_concat]

theorem lastI_snoc (base : Int) (held : List W2) (p : W2) : lastI base (held ++ [p]) = lastI base held + 1 := by
  unfold lastI
  rw [List.length_append, List.length_singleton]
  omega

/-- What the sectors of a disk say, to whoever reads. -/
def SaysD (S : List ByteArray) (P : List W2) (D : Int → Option Rec4) : Prop := ∀ i : Int, 0 ≤ i → i < 8 → saysS (readS S P i).1 = D i

theorem stand_chain {S : List ByteArray} {P : List W2} {D : Int → Option Rec4} (h : SaysD S P D) (base mark : Int) : ∀ (d : Nat) (held : List W2),
    standL 0 8 base mark S P d held = held ++ chainR D d (lastI base held) (tailI mark held)
  | 0, held => by unfold standL chainR; rw [List.append_nil]
  | d + 1, held => by
    have hD := h (sectI 0 8 (lastI base held + 1)) (by unfold sectI; omega) (by unfold sectI; omega)
    have hs : sectI 0 8 (lastI base held + 1) = (lastI base held + 1) % 8 := by unfold sectI; omega
    unfold standL chainR
    rw [stand_says, hD, hs]
    by_cases h1 : (pickR (lastI base held + 1) (tailI mark held) (D ((lastI base held + 1) % 8))).2.2 = true
    · rw [if_pos h1, if_pos h1, stand_chain h base mark d, lastI_snoc, tailI_snoc, List.append_assoc]
      rfl
    · rw [if_neg h1, if_neg h1, List.append_nil]

/-- A sector of 48 bytes that is all 0, or framed with such a record. -/
def SecOk (s : ByteArray) : Option Rec4 → Prop
  | none => s = zerosB 48
  | some (m, n, a, t) => s = frameB m (recB n a t) 48 ∧ okF m (recB n a t) 48 ∧ (0 ≤ m ∧ m < 18446744073709551616) ∧ (0 ≤ n ∧ n < 18446744073709551616) ∧ (0 ≤ a ∧ a < 18446744073709551616)

def markOf : Option Rec4 → Int
  | none => 0
  | some r => r.1

def bodyOf : Option Rec4 → ByteArray
  | none => ByteArray.empty
  | some r => recB r.2.1 r.2.2.1 r.2.2.2

theorem bytes_mk (s : ByteArray) : (⟨(bs s).toArray⟩ : ByteArray) = s := by
  apply bs_inj
  rw [bs_mk]

theorem says_zero : saysS (zerosB 48) = none := by
  unfold saysS
  rw [unf_zero48]
  rfl

theorem says_rec {m n a : Int} {t : ByteArray} (ho : okF m (recB n a t) 48) (hm : 0 ≤ m ∧ m < 18446744073709551616) (hn : 0 ≤ n ∧ n < 18446744073709551616) (ha : 0 ≤ a ∧ a < 18446744073709551616) :
    saysS (frameB m (recB n a t) 48) = some (m, n, a, t) := by
  have e1 : takS (recB n a t) = (n, putB a ++ t, true) := by
    have := tak_put (s := recB n a t) (n := n.toNat) (l := bs (putB a ++ t)) (by omega) (by unfold recB; rw [bs_append, bs_append, bs_append, bs_put, List.append_assoc])
    rw [bytes_mk, show ((n.toNat : Nat) : Int) = n by omega] at this
    exact this
  have e2 : takS (putB a ++ t) = (a, t, true) := by
    have := tak_put (s := putB a ++ t) (n := a.toNat) (l := bs t) (by omega) (by rw [bs_append, bs_put])
    rw [bytes_mk, show ((a.toNat : Nat) : Int) = a by omega] at this
    exact this
  unfold saysS
  simp only [unf_frame ho hm.1 hm.2, e1, e2]
  simp

theorem SecOk.says {s : ByteArray} {x : Option Rec4} (h : SecOk s x) : saysS s = x := by
  cases x with
  | none => rw [show s = zerosB 48 from h]; exact says_zero
  | some r =>
    obtain ⟨m, n, a, t⟩ := r
    obtain ⟨h1, h2, h3, h4, h5⟩ := h
    rw [h1]
    exact says_rec h2 h3 h4 h5

theorem SecOk.sect {s : ByteArray} {x : Option Rec4} (h : SecOk s x) : Sect 48 s (markOf x) (bodyOf x) := by
  cases x with
  | none =>
    have : s = zerosB 48 := h
    subst this
    exact sect_zero (size := 48) (by decide) (by decide) ByteArray.empty
  | some r =>
    obtain ⟨m, n, a, t⟩ := r
    obtain ⟨h1, h2, h3, h4, h5⟩ := h
    rw [h1]
    exact sect_frame h2 h3.1 h3.2

/-- What is said of a sector's mark. -/
def MarkOk (s : ByteArray) (x : Option Rec4) : Prop := ((unfS s).2.2 = true → (unfS s).1 = markOf x ∧ x ≠ none) ∧ (x ≠ none → (unfS s).2.2 = true)

theorem SecOk.mark {s : ByteArray} {x : Option Rec4} (h : SecOk s x) : MarkOk s x := by
  cases x with
  | none =>
    have : s = zerosB 48 := h
    subst this
    unfold MarkOk
    rw [unf_zero48]
    exact ⟨fun h => (by cases h), fun h => absurd rfl h⟩
  | some r =>
    obtain ⟨m, n, a, t⟩ := r
    obtain ⟨h1, h2, h3, h4, h5⟩ := h
    unfold MarkOk
    rw [h1, unf_frame h2 h3.1 h3.2]
    exact ⟨fun _ => ⟨rfl, by simp⟩, fun _ => rfl⟩

theorem junk_says {s : ByteArray} (h : unfS s = (0, ByteArray.empty, false)) : saysS s = none ∧ MarkOk s none := by
  refine ⟨?_, ?_⟩
  · unfold saysS; rw [h]; rfl
  · unfold MarkOk; rw [h]; exact ⟨fun h => (by cases h), fun h => absurd rfl h⟩

/-- A sector that a crash left: what it says. -/
theorem torn_sec {s f : ByteArray} {x y : Option Rec4} (hs : SecOk s x) (hf : SecOk f y) (hne : markOf x ≠ markOf y) {c : Nat} (hc : (c : Int) ≤ 48) :
    ∃ z, saysS (f.extract 0 c ++ s.extract c s.size) = z ∧ MarkOk (f.extract 0 c ++ s.extract c s.size) z ∧ (z = none ∨ z = x ∨ z = y) := by
  rcases torn hs.sect hf.sect hne hc with (h | h) | h
  · rw [h]; exact ⟨x, hs.says, hs.mark, .inr (.inl rfl)⟩
  · rw [h]; exact ⟨y, hf.says, hf.mark, .inr (.inr rfl)⟩
  · have := junk_says h
    exact ⟨none, this.1, this.2, .inl rfl⟩

theorem getD_app {α : Type} (l m : List α) (d : α) (i : Nat) (h : i < l.length) : (l ++ m).getD i d = l.getD i d := by
  rw [List.getD_eq_getElem?_getD, List.getD_eq_getElem?_getD, List.getElem?_append_left h]

/-! ### chains -/

/-- Such records stand in their sectors. -/
def Stand (D : Int → Option Rec4) (n a : Int) (held : List W2) : Prop := ∀ j : Nat, j < held.length → D ((n + 1 + j) % 8) = some ((held.getD j (0, ByteArray.empty)).1, n + 1 + j, tailI a (held.take j), (held.getD j (0, ByteArray.empty)).2)

theorem pick_yes {n a m : Int} {t : ByteArray} : pickR n a (some (m, n, a, t)) = (m, t, true) := by
  unfold pickR
  exact if_pos ⟨rfl, rfl⟩

theorem tailI_cons (a : Int) (p : W2) (l : List W2) : tailI a (p :: l) = tailI p.1 l := by
  unfold tailI
  cases l with
  | nil => rfl
  | cons q l =>
    rw [List.getLast?_cons_cons]
    cases h : (q :: l).getLast? with
    | none => rw [List.getLast?_eq_none_iff] at h; cases h
    | some r => rfl

theorem chain_held {D : Int → Option Rec4} : ∀ (held : List W2) (d : Nat) (n a : Int), Stand D n a held → held.length ≤ d → chainR D d n a = held ++ chainR D (d - held.length) (n + held.length) (tailI a held)
  | [], d, n, a, h, hd => by
    simp [tailI]
  | p :: l, 0, n, a, h, hd => by simp at hd
  | p :: l, d + 1, n, a, h, hd => by
    have h0 := h 0 (by simp)
    have e0 : tailI a (List.take 0 (p :: l)) = a := rfl
    simp only [e0, Int.natCast_zero, Int.add_zero, List.getD_cons_zero] at h0
    have hl : Stand D (n + 1) p.1 l := fun j hj => by
      have := h (j + 1) (by simp; omega)
      rw [List.getD_cons_succ, List.take_succ_cons, tailI_cons, show (n + 1 + ((j + 1 : Nat) : Int)) = n + 1 + 1 + j by omega] at this
      exact this
    rw [chainR_succ, h0, pick_yes]
    simp only [if_true]
    rw [chain_held l d (n + 1) p.1 hl (by simpa using hd), tailI_cons, List.length_cons, show d + 1 - (l.length + 1) = d - l.length by omega, show n + 1 + (l.length : Int) = n + ((l.length + 1 : Nat) : Int) by omega, List.cons_append]

/-- No record that fits stands there. -/
def Stop (D : Int → Option Rec4) (n a : Int) : Prop := ∀ m k a' t, D ((n + 1) % 8) = some (m, k, a', t) → ¬ (k = n + 1 ∧ a' = a)

theorem stop_none {D : Int → Option Rec4} {n a : Int} (h : D ((n + 1) % 8) = none) : Stop D n a := fun m k a' t e => by rw [h] at e; cases e

theorem chain_stop {D : Int → Option Rec4} {n a : Int} (h : Stop D n a) (d : Nat) : chainR D d n a = [] := by
  cases d with
  | zero => rfl
  | succ d =>
    unfold chainR
    rw [if_neg]
    cases hD : D ((n + 1) % 8) with
    | none => simp [pickR]
    | some r =>
      obtain ⟨m, k, a', t⟩ := r
      have : pickR (n + 1) a (some (m, k, a', t)) = (0, ByteArray.empty, false) := if_neg (h m k a' t hD)
      rw [this]
      simp

/-- Records that may stand: some first ones do. -/
theorem chain_some {D : Int → Option Rec4} : ∀ (all : List W2) (d : Nat) (n a : Int), all.length ≤ d →
    (∀ j : Nat, j < all.length → Stop D (n + j) (tailI a (all.take j)) ∨ D ((n + 1 + j) % 8) = some ((all.getD j (0, ByteArray.empty)).1, n + 1 + j, tailI a (all.take j), (all.getD j (0, ByteArray.empty)).2)) →
    (all.length < d → Stop D (n + all.length) (tailI a all)) →
    ∃ p : Nat, p ≤ all.length ∧ chainR D d n a = all.take p ∧ Stand D n a (all.take p) ∧ (p < all.length → Stop D (n + p) (tailI a (all.take p)))
  | [], d, n, a, hd, h, hs => by
    refine ⟨0, by simp, ?_, fun j hj => (by simp at hj), fun h => by simp at h⟩
    cases d with
    | zero => rfl
    | succ d =>
      rw [List.take_nil]
      exact chain_stop (by
        have := hs (by simp)
        simpa [tailI] using this) _
  | q :: l, 0, n, a, hd, h, hs => by simp at hd
  | q :: l, d + 1, n, a, hd, h, hs => by
    have h0 := h 0 (by simp)
    have e0 : tailI a (List.take 0 (q :: l)) = a := rfl
    simp only [e0, Int.natCast_zero, Int.add_zero, List.getD_cons_zero] at h0
    rcases h0 with h0 | h0
    · exact ⟨0, by simp, by rw [chain_stop h0]; rfl, fun j hj => (by simp at hj), fun _ => by simpa [tailI] using h0⟩
    · obtain ⟨p, p1, p2, p3, p4⟩ := chain_some l d (n + 1) q.1 (by simpa using hd) (fun j hj => by
        have := h (j + 1) (by simp; omega)
        rw [List.getD_cons_succ, List.take_succ_cons, tailI_cons, show (n + 1 + ((j + 1 : Nat) : Int)) = n + 1 + 1 + j by omega, show (n + ((j + 1 : Nat) : Int)) = n + 1 + j by omega] at this
        exact this) (fun hl => by
          have := hs (by simp; omega)
          rw [List.length_cons, tailI_cons, show n + ((l.length + 1 : Nat) : Int) = n + 1 + l.length by omega] at this
          exact this)
      refine ⟨p + 1, by simp; omega, ?_, ?_, ?_⟩
      · rw [chainR_succ, h0, pick_yes]
        simp only [if_true]
        rw [p2]
        rfl
      · intro j hj
        rw [List.take_succ_cons] at hj ⊢
        cases j with
        | zero => simpa [tailI] using h0
        | succ j =>
          have := p3 j (by simpa using hj)
          rw [List.getD_cons_succ, List.take_succ_cons, tailI_cons, show (n + 1 + ((j + 1 : Nat) : Int)) = n + 1 + 1 + j by omega]
          exact this
      · intro hp
        have := p4 (by simpa using hp)
        rw [List.take_succ_cons, tailI_cons, show (n + ((p + 1 : Nat) : Int)) = n + 1 + p by omega]
        exact this

theorem tail_take (a : Int) {l : List W2} {j : Nat} (h : j < l.length) : tailI a (l.take (j + 1)) = (l.getD j (0, ByteArray.empty)).1 := by
  rw [List.take_succ_eq_append_getElem h, tailI_snoc, List.getD_eq_getElem?_getD, List.getElem?_eq_getElem h]
  rfl
end Go.Proofs.Ytlfedmjjjbhnpaa.S2
