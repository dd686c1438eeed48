/- The document's stores, in plain words. -/
import Derived.Test.YtlfedmjjjbhnpaaGrstore
import Derived.Test.YtlfedmjjjbhnpaaPrwire
import Derived.Test.YtlfedmjjjbhnpaaPrslot
import Derived.Test.YtlfedmjjjbhnpaaPstore
set_option linter.unusedVariables false
set_option linter.unusedSimpArgs false
namespace Go.Proofs.Ytlfedmjjjbhnpaa.S2
open Go

theorem r_Text {t : TrT} (h : TrOk t) : F_ref22_Text (t, ()) () = some (textB t, ()) := by
  obtain ⟨a, b, c, d, e, f, ⟨⟩⟩ := t
  have h1 := putB_size h.a.1 h.a.2
  have h2 := putB_size h.b.1 h.b.2
  have h3 := putB_size h.c.1 h.c.2
  have h4 := putB_size h.d.1 h.d.2
  have h5 := putB_size h.e.1 h.e.2
  have hf := h.f
  dsimp only at h1 h2 h3 h4 h5 hf
  have h6 := putB_size (n := f.size) (by omega) (by omega)
  rw [Fe_ref22_Text]
  unfold tree_ref22_Text
  rw [r_PutUint h.a.1 h.a.2]
  simp only [Option.bind_some]
  rw [r_PutUint h.b.1 h.b.2]
  simp only [Option.bind_some]
  rw [cd_t (by omega), r_PutUint h.c.1 h.c.2]
  simp only [Option.bind_some]
  rw [cd_t (by simp only [ByteArray.size_append]; omega), r_PutUint h.d.1 h.d.2]
  simp only [Option.bind_some]
  rw [cd_t (by simp only [ByteArray.size_append]; omega), r_PutUint h.e.1 h.e.2]
  simp only [Option.bind_some]
  rw [cd_t (by simp only [ByteArray.size_append]; omega), r_PutText (by omega)]
  simp only [Option.bind_some]
  rw [cd_t (by simp only [ByteArray.size_append]; omega)]
  rfl

theorem Num_step {s : ByteArray} {l : List Int} (hl : l.length < 5) : L_ref13_Numbers_2 (s, 5, ()) (l, ()) =
    if (takS s).2.2 = true then L_ref13_Numbers_2 ((takS s).2.1, 5, ()) (l ++ [(takS s).1], ()) else some (.inl ((s, ByteArray.empty, false, ()), (l, ()))) := by
  rw [Le_ref13_Numbers_2]
  unfold ltree_ref13_Numbers_2
  rw [cd_t (by omega), r_TakeUint]
  simp only [Option.bind_some]
  cases h : (takS s).2.2 with
  | false => rfl
  | true =>
    simp only [Bool.not_true, cond_false, if_true]
    rw [cd_t (by omega), List.nil_append]

theorem r_Numbers {s : ByteArray} : ∃ r : ByteArray, F_ref13_Numbers (s, 5, ()) () =
    if (q1 s).2.2 = true ∧ (q2 s).2.2 = true ∧ (q3 s).2.2 = true ∧ (q4 s).2.2 = true ∧ (q5 s).2.2 = true then some (([(q1 s).1, (q2 s).1, (q3 s).1, (q4 s).1, (q5 s).1], (q5 s).2.1, true, ()), ())
    else some (([], r, false, ()), ()) := by
  rw [Fe_ref13_Numbers]
  unfold tree_ref13_Numbers
  rw [Num_step (by decide)]
  have k1 : takS s = q1 s := rfl
  rw [k1]
  cases h1 : (q1 s).2.2 with
  | false => exact ⟨_, by simp; rfl⟩
  | true =>
  rw [if_pos rfl, Num_step (by simp)]
  have k2 : takS (q1 s).2.1 = q2 s := rfl
  rw [k2]
  cases h2 : (q2 s).2.2 with
  | false => exact ⟨_, by simp; rfl⟩
  | true =>
  rw [if_pos rfl, Num_step (by simp)]
  have k3 : takS (q2 s).2.1 = q3 s := rfl
  rw [k3]
  cases h3 : (q3 s).2.2 with
  | false => exact ⟨_, by simp; rfl⟩
  | true =>
  rw [if_pos rfl, Num_step (by simp)]
  have k4 : takS (q3 s).2.1 = q4 s := rfl
  rw [k4]
  cases h4 : (q4 s).2.2 with
  | false => exact ⟨_, by simp; rfl⟩
  | true =>
  rw [if_pos rfl, Num_step (by simp)]
  have k5 : takS (q4 s).2.1 = q5 s := rfl
  rw [k5]
  cases h5 : (q5 s).2.2 with
  | false => exact ⟨_, by simp; rfl⟩
  | true =>
  rw [if_pos rfl, Le_ref13_Numbers_2]
  unfold ltree_ref13_Numbers_2
  rw [cd_f (by simp)]
  exact ⟨ByteArray.empty, by simp⟩

theorem r_Parse {s : ByteArray} (hs : s.size ≤ 281474976710656) : F_ref22_Parse (s, ()) () = some (((parS s).1, (parS s).2, ()), ()) := by
  rw [Fe_ref22_Parse]
  unfold tree_ref22_Parse
  have hq := q_size s
  obtain ⟨r, hn⟩ := r_Numbers (s := s)
  rw [hn]
  by_cases h5 : (q1 s).2.2 = true ∧ (q2 s).2.2 = true ∧ (q3 s).2.2 = true ∧ (q4 s).2.2 = true ∧ (q5 s).2.2 = true
  · rw [if_pos h5]
    simp only [Option.bind_some, Bool.not_true, cond_false]
    rw [r_TakeText (by omega) (by omega)]
    have k6 : takT (q5 s).2.1 ((q5 s).2.1.size : Int) = q6 s := rfl
    rw [k6]
    simp only [Option.bind_some]
    rw [cd_t (by simp), cd_t (by simp), cd_t (by simp), cd_t (by simp), cd_t (by simp)]
    simp only [List.getD_cons_zero, List.getD_cons_succ, cond_eqi, bytes_beq, cond_decide]
    have hall : okP s ↔ (q6 s).2.2 = true ∧ (q6 s).2.1 = ByteArray.empty ∧ ((q3 s).1 = 1 ∨ ((q3 s).1 = 0 ∧ (q4 s).1 = 0 ∧ (q5 s).1 = 0 ∧ (q6 s).1 = ByteArray.empty)) :=
      ⟨fun h => ⟨h.2.1, h.2.2.1, h.2.2.2⟩, fun h => ⟨h5, h.1, h.2.1, h.2.2⟩⟩
    have hno : ¬ okP s → parS s = (noT, false) := fun h => if_neg h
    have hyes : okP s → parS s = (trOf s, true) := fun h => if_pos h
    have hc' : 0 ≤ (q3 s).1 := (takS_lt (q2 s).2.1).1
    cases h6 : (q6 s).2.2 with
    | false =>
      rw [hno (fun h => by have := (hall.1 h).1; rw [h6] at this; cases this)]
      simp only [Bool.not_false, cond_true]
      split
      · split <;> rfl
      · rfl
    | true =>
      simp only [Bool.not_true, cond_false]
      by_cases h7 : (q6 s).2.1 = ByteArray.empty
      · simp only [decide_eq_true h7, Bool.not_true, cond_false]
        by_cases h8 : (q3 s).1 > 1
        · rw [hno (fun h => by have := (hall.1 h).2.2; omega)]
          simp only [if_pos h8]
          split
          · split <;> rfl
          · rfl
        · simp only [if_neg h8]
          by_cases h9 : (q3 s).1 = 0
          · simp only [if_pos h9]
            by_cases g1 : (q4 s).1 = 0
            · simp only [if_pos g1]
              by_cases g2 : (q5 s).1 = 0
              · simp only [if_pos g2]
                by_cases g3 : (q6 s).1 = ByteArray.empty
                · rw [decide_eq_true g3, hyes (hall.2 ⟨h6, h7, .inr ⟨h9, g1, g2, g3⟩⟩)]
                  simp only [Bool.not_true, cond_false]
                  rfl
                · have hx : ¬ okP s := by
                    intro h
                    rcases (hall.1 h).2.2 with h | h
                    · omega
                    · exact g3 h.2.2.2
                  rw [decide_eq_false g3, hno hx]
                  rfl
              · rw [hno (fun h => by have := (hall.1 h).2.2; omega)]
                simp only [if_neg g2]
                rfl
            · rw [hno (fun h => by have := (hall.1 h).2.2; omega)]
              simp only [if_neg g1]
              rfl
          · simp only [if_neg h9]
            rw [hyes (hall.2 ⟨h6, h7, .inl (by omega)⟩)]
            split
            · split <;> rfl
            · rfl
      · rw [hno (fun h => h7 (hall.1 h).2.1)]
        simp only [decide_eq_false h7, Bool.not_false, cond_true]
        split
        · split <;> rfl
        · rfl
  · rw [if_neg h5, show parS s = (noT, false) from if_neg (fun h => h5 h.1)]
    rfl

section
variable {size : Int} {S : List ByteArray} {P : List W2}

theorem r_Trust (hd : DInv size S P) : F_ref22_Trust () ((size, ()), S, pendR P, ()) = some (((trustD S P).1, (trustD S P).2, ()), ()) := by
  rw [Fe_ref22_Trust]
  unfold tree_ref22_Trust trustD
  rw [r_Load hd]
  simp only [Option.bind_some, cond_eqi]
  have hs' : (newD S P 0 1).2.2.size ≤ 512 := new_size
  by_cases hn : (newD S P 0 1).2.1 = 0
  · rw [if_pos hn, if_pos hn]; rfl
  · rw [if_neg hn, if_neg hn, r_Parse (by omega)]
    rfl

theorem r_save {t : TrT} (ht : TrOk t) (hd : DInv size S P) (hl : P.length < 1000000) : F_ref22_save (t, ()) ((size, ()), S, pendR P, ()) =
    some ((doD size S P (some t)).1, ((size, ()), (doD size S P (some t)).2.1, (), pendR (doD size S P (some t)).2.2, ())) := by
  have he := r_Text ht
  obtain ⟨a, b, c, d, e, f, ⟨⟩⟩ := t
  rw [Fe_ref22_save]
  unfold tree_ref22_save
  rw [he]
  simp only [Option.bind_some]
  rw [r_Begin hd]
  unfold doD
  simp only [Option.bind_some]
  have hb := beg_DInv (a := 0) (b := 1) (t := textB (a, b, c, d, e, f, ())) hd hl
  cases hbb : begD size S P 0 1 (textB (a, b, c, d, e, f, ())) with
  | none => simp
  | some p =>
    rw [hbb] at hb
    simp only [Option.isSome_some, Bool.not_true, cond_false, if_true]
    rw [r_Flush hb]
    rfl

theorem r_Reset {root : Int} (h : u64I root) (hd : DInv size S P) (hl : P.length < 1000000) : F_ref22_Reset (root, ()) ((size, ()), S, pendR P, ()) =
    some ((doD size S P (some (resetT root))).1, ((size, ()), (doD size S P (some (resetT root))).2.1, (), pendR (doD size S P (some (resetT root))).2.2, ())) := by
  rw [Fe_ref22_Reset]
  unfold tree_ref22_Reset
  have := r_save (reset_ok h) hd hl
  unfold resetT at this ⊢
  rw [this]
  rfl

theorem may01 {t : TrT} (h : mayT t) : t.2.2.1 = 0 ∨ t.2.2.1 = 1 := by
  rcases h with h | h
  · exact .inr h
  · exact .inl h.1

theorem r_Intend {sector next : Int} {leaf : ByteArray} (h1 : u64I sector) (h2 : u64I next) (h3 : leaf.size ≤ 140737488355328) (hd : DInv size S P) (hl : P.length < 1000000) :
    F_ref22_Intend (sector, leaf, next, ()) ((size, ()), S, pendR P, ()) =
    some ((doD size S P (intT (trustD S P) sector leaf next)).1, ((size, ()), (doD size S P (intT (trustD S P) sector leaf next)).2.1, (), pendR (doD size S P (intT (trustD S P) sector leaf next)).2.2, ())) := by
  rw [Fe_ref22_Intend]
  unfold tree_ref22_Intend
  rw [r_Trust hd]
  simp only [Option.bind_some]
  have hr : (trustD S P).2 = true → TrOk (trustD S P).1 := fun h => (trust_ok h).1
  cases hb : (trustD S P).2 with
  | false =>
    have : intT (trustD S P) sector leaf next = none := if_neg (fun h => by rw [hb] at h; cases h.1)
    rw [this]
    rfl
  | true =>
    have hm := may01 (trust_ok hb).2.1
    simp only [Bool.not_true, cond_false, cond_nei]
    by_cases hp : (trustD S P).1.2.2.1 = 0
    · have hi : intT (trustD S P) sector leaf next = some ((trustD S P).1.1, (trustD S P).1.2.1, 1, sector, next, leaf, ()) := if_pos ⟨hb, by omega⟩
      rw [if_pos hp, r_save (int_ok hr h1 h2 h3 hi) hd hl, hi]
      rfl
    · have : intT (trustD S P) sector leaf next = none := if_neg (fun h => by have := h.2; omega)
      rw [if_neg hp, this]
      rfl

theorem r_Settle {happened : Bool} (hd : DInv size S P) (hl : P.length < 1000000) :
    F_ref22_Settle (happened, ()) ((size, ()), S, pendR P, ()) =
    some ((doD size S P (setT (trustD S P) happened)).1, ((size, ()), (doD size S P (setT (trustD S P) happened)).2.1, (), pendR (doD size S P (setT (trustD S P) happened)).2.2, ())) := by
  rw [Fe_ref22_Settle]
  unfold tree_ref22_Settle
  rw [r_Trust hd]
  simp only [Option.bind_some]
  have hr : (trustD S P).2 = true → TrOk (trustD S P).1 := fun h => (trust_ok h).1
  cases hb : (trustD S P).2 with
  | false =>
    have : setT (trustD S P) happened = none := if_neg (fun h => by rw [hb] at h; cases h.1)
    rw [this]
    rfl
  | true =>
    have hm := may01 (trust_ok hb).2.1
    simp only [Bool.not_true, cond_false, cond_nei]
    by_cases hp : (trustD S P).1.2.2.1 = 1
    · rw [if_pos hp]
      cases happened with
      | true =>
        simp only [Bool.not_true, cond_false, cond_eqi]
        have hvb := (hr hb).b
        unfold u64I at hvb
        by_cases hv : (trustD S P).1.2.1 = 18446744073709551615
        · have : setT (trustD S P) true = none := if_neg (fun h => h.2.2 ⟨rfl, hv⟩)
          rw [if_pos (by rw [hv]; decide), this]
          rfl
        · have hi : setT (trustD S P) true = some ((trustD S P).1.2.2.2.2.1, (trustD S P).1.2.1 + 1, 0, 0, 0, ByteArray.empty, ()) := if_pos ⟨hb, by omega, fun h => hv h.2⟩
          rw [u64id (n := (trustD S P).1.2.1 + 1) (by omega) (by omega), if_neg (by omega), r_save (set_ok hr hi) hd hl, hi]
          rfl
      | false =>
        simp only [Bool.not_false, cond_true]
        have hi : setT (trustD S P) false = some ((trustD S P).1.1, (trustD S P).1.2.1, 0, 0, 0, ByteArray.empty, ()) := if_pos ⟨hb, by omega, fun h => by cases h.1⟩
        rw [r_save (set_ok hr hi) hd hl, hi]
        rfl
    · have : setT (trustD S P) happened = none := if_neg (fun h => by have := h.2.1; omega)
      rw [if_neg hp, this]
      rfl
end
end Go.Proofs.Ytlfedmjjjbhnpaa.S2
