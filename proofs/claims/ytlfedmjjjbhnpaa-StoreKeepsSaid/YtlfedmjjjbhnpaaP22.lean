/- A store's acts, its trust behind them. -/
import Derived.Test.YtlfedmjjjbhnpaaGlaw22
import Derived.Test.YtlfedmjjjbhnpaaPtwo
import Derived.Test.YtlfedmjjjbhnpaaPstore
import Derived.Test.YtlfedmjjjbhnpaaPdisk
set_option linter.unusedVariables false
set_option linter.unusedSimpArgs false
namespace Go.Proofs.Ytlfedmjjjbhnpaa.S2
open Go

theorem e_made {n size : Int} (h : okN n size) : F_law22_made (n, size, ()) () =
    if n < 2 then some (.inr (.inl ((), ((size, ()), List.replicate n.toNat (zerosB size.toNat), [], ())))) else some (.inl ((), ((), (size, ()), List.replicate n.toNat (zerosB size.toNat), [], ()))) := by
  rw [Fe_law22_made]
  unfold tree_law22_made
  rw [e_New h]
  simp only [Option.bind_some, Sum.elim_inr]
  rw [e_Open]
  have := h.1
  simp only [List.length_replicate]
  by_cases h2 : n < 2
  · rw [if_pos h2, if_pos (by omega)]; rfl
  · rw [if_neg h2, if_neg (by omega)]; rfl

theorem e_made_no {n size : Int} (h : ¬ okN n size) : F_law22_made (n, size, ()) () = some (.inr (.inr ((), ()))) := by
  rw [Fe_law22_made]
  unfold tree_law22_made
  rw [e_New_no h]
  rfl

/-- A store on two sectors that trusts this. -/
structure StG (size : Int) (S : List ByteArray) (n : Int) (t : TrT) : Prop where
  slot : SlotG size S n (textB t)
  pos : 0 < n
  ok : TrOk t
  may : mayT t

theorem StG.trust {size : Int} {S : List ByteArray} {n : Int} {t : TrT} (h : StG size S n t) : trustD S [] = (t, true) := by
  obtain ⟨s0, s1, rfl, htwo, hw⟩ := h.slot.two
  have hp := h.pos
  unfold trustD
  rw [new2G, hw]
  dsimp only
  rw [if_neg (by omega), par_text h.ok, if_pos h.may]

theorem trust_new {size : Int} (lo : 32 ≤ size) (hi : size ≤ 512) : trustD (List.replicate (2 : Int).toNat (zerosB size.toNat)) [] = (noT, false) := by
  obtain ⟨s0, s1, e, htwo, hw⟩ := (slotG_new lo hi).two
  unfold trustD
  rw [e, new2G, hw]
  rfl

theorem st_save {size : Int} {S : List ByteArray} {n : Int} {last : ByteArray} {u : TrT} (h : SlotG size S n last) (hn : n < 1000000) (ho : TrOk u) (hm : mayT u) :
    ∃ S', doD size S [] (some u) = (decide (((textB u).size : Int) ≤ size - 18), S', []) ∧ (((textB u).size : Int) ≤ size - 18 → StG size S' (n + 1) u) ∧ (¬ ((textB u).size : Int) ≤ size - 18 → S' = S) := by
  have h' := h
  have hn0 := h.n0
  obtain ⟨s0, s1, rfl, htwo, hw⟩ := h'.two
  have hw1 : (newS 0 1 s0 s1).2.1 = n := by rw [hw]
  obtain ⟨h1, h2⟩ := saved_flush (t := textB u) htwo (by omega)
  unfold doD
  dsimp only
  rw [h1]
  by_cases ht : ((textB u).size : Int) ≤ size - 18
  · rw [decide_eq_true ht, if_pos rfl, h2 ht]
    exact ⟨_, rfl, fun _ => ⟨slotG_saved h (by omega) ht, by omega, ho, hm⟩, fun hh => absurd ht hh⟩
  · rw [decide_eq_false ht, if_neg (by decide)]
    exact ⟨_, rfl, fun hh => absurd hh ht, fun _ => rfl⟩

def stepT (size : Int) (t : TrT) (o : Option TrT) : Bool × TrT :=
  match o with
  | some u => if ((textB u).size : Int) ≤ size - 18 then (true, u) else (false, t)
  | none => (false, t)

theorem st_step {size : Int} {S : List ByteArray} {n : Int} {t : TrT} (h : StG size S n t) (hn : n < 1000000) {o : Option TrT} (ho : ∀ u, o = some u → TrOk u ∧ mayT u) :
    ∃ S' n', doD size S [] o = ((stepT size t o).1, S', []) ∧ StG size S' n' (stepT size t o).2 ∧ n' ≤ n + 1 ∧ ((stepT size t o).1 = false → S' = S ∧ (stepT size t o).2 = t) := by
  cases o with
  | none => exact ⟨S, n, rfl, h, by omega, fun _ => ⟨rfl, rfl⟩⟩
  | some u =>
    obtain ⟨hu, hm⟩ := ho u rfl
    obtain ⟨S', h1, h2, h3⟩ := st_save h.slot hn hu hm
    unfold stepT
    dsimp only
    by_cases ht : ((textB u).size : Int) ≤ size - 18
    · rw [decide_eq_true ht] at h1
      rw [if_pos ht]
      exact ⟨S', n + 1, h1, h2 ht, by omega, fun hh => by cases hh⟩
    · rw [decide_eq_false ht] at h1
      rw [if_neg ht]
      obtain rfl := h3 ht
      exact ⟨_, n, h1, h, by omega, fun _ => ⟨rfl, rfl⟩⟩

theorem may_reset (root : Int) : mayT (resetT root) := .inr ⟨rfl, rfl, rfl, rfl⟩
theorem may_int {r : TrT × Bool} {sector next : Int} {leaf : ByteArray} {t : TrT} (h : intT r sector leaf next = some t) : mayT t := by
  unfold intT at h
  split at h
  · cases h; exact .inl rfl
  · cases h
theorem may_set {r : TrT × Bool} {b : Bool} {t : TrT} (h : setT r b = some t) : mayT t := by
  unfold setT at h
  split at h
  · cases b <;> (simp at h; subst h; exact .inr ⟨rfl, rfl, rfl, rfl⟩)
  · cases h

/-! ### acts -/

abbrev ActS := Int × Int × Int × Int × ByteArray × List Int
structure ActOk (x : ActS) : Prop where
  a : u64I x.2.2.1
  b : u64I x.2.2.2.1
  c : x.2.2.2.2.1.size ≤ 140737488355328

def opT (x : ActS) (r : TrT × Bool) : Option TrT :=
  if x.1 = 0 then some (resetT x.2.2.1) else if x.1 = 1 then intT r x.2.2.1 x.2.2.2.2.1 x.2.2.2.1 else if x.1 = 2 then setT r true else setT r false

theorem opT_ok {x : ActS} {r : TrT × Bool} (hx : ActOk x) (hr : r.2 = true → TrOk r.1) : ∀ u, opT x r = some u → TrOk u ∧ mayT u := by
  intro u h
  unfold opT at h
  split at h
  · cases h; exact ⟨reset_ok hx.a, may_reset _⟩
  · split at h
    · exact ⟨int_ok hr hx.a hx.b hx.c h, may_int h⟩
    · split at h
      · exact ⟨set_ok hr h, may_set h⟩
      · exact ⟨set_ok hr h, may_set h⟩

def actD (size : Int) (S : List ByteArray) (P : List W2) (x : ActS) : Bool × List ByteArray × List W2 :=
  if 0 ≤ x.1 ∧ x.1 ≤ 3 then doD size S P (opT x (trustD S P))
  else if x.1 = 4 then (true, keepS (fun k => (clampS size (x.2.2.2.2.2.getD k 0)).toNat) 0 S P, [])
  else if x.1 = 5 then (mayW size S x.2.1 x.2.2.2.2.1, S, if mayW size S x.2.1 x.2.2.2.2.1 = true then P ++ [(x.2.1, padW size x.2.2.2.2.1)] else P)
  else if x.1 = 6 then (true, flushS size S P, []) else (true, S, P)

theorem e_done {size : Int} {S : List ByteArray} {P : List W2} {x : ActS} (hx : ActOk x) (hd : DInv size S P) (hl : P.length < 1000000) :
    F_law22_done ((x.1, x.2.1, x.2.2.1, x.2.2.2.1, x.2.2.2.2.1, x.2.2.2.2.2, ()), ()) ((), (size, ()), S, P, ()) = some ((actD size S P x).1, ((), (size, ()), (actD size S P x).2.1, (), (actD size S P x).2.2, ())) := by
  obtain ⟨d, at_, a, next, text, keep⟩ := x
  rw [Fe_law22_done]
  unfold tree_law22_done
  rw [Fe_store_Store_Disk]
  unfold actD opT
  dsimp only
  have e0 : (tree_store_Store_Disk size S P some).map (fun r => (r.1, ())) = some ((), ()) := rfl
  rw [e0]
  simp only [Option.bind_some, cond_eqi]
  have ha := hx.a
  have hb := hx.b
  have hc := hx.c
  dsimp only at ha hb hc
  by_cases h0 : d = 0
  · simp only [if_pos h0, if_pos (show 0 ≤ d ∧ d ≤ 3 by omega)]
    rw [e_Reset ha hd hl]; rfl
  simp only [if_neg h0]
  by_cases h1 : d = 1
  · simp only [if_pos h1, if_pos (show 0 ≤ d ∧ d ≤ 3 by omega)]
    rw [e_Intend ha hb hc hd hl]; rfl
  simp only [if_neg h1]
  by_cases h2 : d = 2
  · simp only [if_pos h2, if_pos (show 0 ≤ d ∧ d ≤ 3 by omega)]
    rw [e_Settle hd hl]; rfl
  simp only [if_neg h2]
  by_cases h3 : d = 3
  · simp only [if_pos h3, if_pos (show 0 ≤ d ∧ d ≤ 3 by omega)]
    rw [e_Settle hd hl]; rfl
  simp only [if_neg h3, if_neg (show ¬ (0 ≤ d ∧ d ≤ 3) by omega)]
  by_cases h4 : d = 4
  · simp only [if_pos h4]
    rw [e_Crash hd]; rfl
  simp only [if_neg h4]
  by_cases h5 : d = 5
  · simp only [if_pos h5]
    rw [e_Write hd]; rfl
  simp only [if_neg h5]
  by_cases h6 : d = 6
  · simp only [if_pos h6]
    rw [e_Flush hd]; rfl
  simp only [if_neg h6]

theorem act_DInvS {size : Int} {S : List ByteArray} {P : List W2} {x : ActS} (hd : DInv size S P) (hl : P.length < 900000) : DInv size (actD size S P x).2.1 (actD size S P x).2.2 ∧ (actD size S P x).2.2.length ≤ P.length + 1 := by
  unfold actD
  split
  · obtain ⟨h1, h2, h3⟩ := do_DInv (o := opT x (trustD S P)) hd (by omega)
    exact ⟨h1, by omega⟩
  · split
    · exact ⟨hd.keep fun _ => clampN hd.size0, Nat.zero_le _⟩
    · split
      · dsimp only
        by_cases hm : mayW size S x.2.1 x.2.2.2.2.1 = true
        · rw [if_pos hm]; exact ⟨hd.write hm (by omega), by simp⟩
        · rw [if_neg hm]; exact ⟨hd, by omega⟩
      · split
        · exact ⟨hd.keep fun _ => clampN hd.size0, Nat.zero_le _⟩
        · exact ⟨hd, by dsimp only; omega⟩

/-- Acts that are resets, intents and settlings keep a store a store. -/
theorem act_stG {size : Int} {S : List ByteArray} {n : Int} {t : TrT} {x : ActS} (h : StG size S n t) (hn : n < 1000000) (hx : ActOk x) (h0 : 0 ≤ x.1) (h3 : x.1 ≤ 3) :
    ∃ S' n', actD size S [] x = ((stepT size t (opT x (t, true))).1, S', []) ∧ StG size S' n' (stepT size t (opT x (t, true))).2 ∧ n' ≤ n + 1 ∧ ((stepT size t (opT x (t, true))).1 = false → S' = S ∧ (stepT size t (opT x (t, true))).2 = t) := by
  unfold actD
  rw [if_pos ⟨h0, h3⟩, h.trust]
  exact st_step h hn (opT_ok hx fun _ => h.ok)

/-! ### the fixed calls -/

theorem putB_small {n : Int} (h0 : 0 ≤ n) (h : n < 128) : (putB n).size = 1 := by
  rw [← bs_len, bs_put, putL_small (by omega)]
  rfl

theorem text_small {t : TrT} (h1 : 0 ≤ t.1 ∧ t.1 < 128) (h2 : 0 ≤ t.2.1 ∧ t.2.1 < 128) (h3 : 0 ≤ t.2.2.1 ∧ t.2.2.1 < 128) (h4 : 0 ≤ t.2.2.2.1 ∧ t.2.2.2.1 < 128) (h5 : 0 ≤ t.2.2.2.2.1 ∧ t.2.2.2.2.1 < 128) (h6 : t.2.2.2.2.2.1.size < 128) : (textB t).size = 6 + t.2.2.2.2.2.1.size := by
  unfold textB
  simp only [ByteArray.size_append]
  rw [putB_small h1.1 h1.2, putB_small h2.1 h2.2, putB_small h3.1 h3.2, putB_small h4.1 h4.2, putB_small h5.1 h5.2, putB_small (by omega) (by omega)]
  omega

theorem slot_D {size : Int} {S : List ByteArray} {n : Int} {last : ByteArray} (h : SlotG size S n last) : DInv size S [] := by
  obtain ⟨s0, s1, rfl, htwo, hw⟩ := h.two
  exact htwo.D

theorem e_fixed22 : F_law22_fixed () () = some (true, ()) := by
  rw [Fe_law22_fixed]
  unfold tree_law22_fixed
  have hS := slotG_new (size := 64) (by decide) (by decide)
  rw [e_made (show okN 2 64 by decide), if_neg (by decide)]
  simp only [Option.bind_some, Sum.elim_inl]
  rw [e_Trust (slot_D hS), trust_new (by decide) (by decide), e_Reset (show u64I 5 by unfold u64I; decide) (slot_D hS) (by simp)]
  simp only [Option.bind_some]
  have ok5 := reset_ok (root := 5) (by unfold u64I; decide)
  have t5 : (textB (resetT 5)).size = 6 := text_small (by decide) (by decide) (by decide) (by decide) (by decide) (by decide)
  obtain ⟨S1, e1, g1, _⟩ := st_save hS (by decide) ok5 (may_reset 5)
  rw [decide_eq_true (by rw [t5]; decide)] at e1
  have h1 := g1 (by rw [t5]; decide)
  rw [e1]
  dsimp only
  rw [e_Intend (show u64I 2 by unfold u64I; decide) (show u64I 9 by unfold u64I; decide) (by decide) (slot_D h1.slot) (by simp), h1.trust]
  simp only [Option.bind_some]
  have i1 : intT (resetT 5, true) 2 (ByteArray.mk #[120]) 9 = some (5, 0, 1, 2, 9, ByteArray.mk #[120], ()) := rfl
  have t6 : (textB (5, 0, 1, 2, 9, ByteArray.mk #[120], ())).size = 7 := text_small (by decide) (by decide) (by decide) (by decide) (by decide) (by decide)
  rw [i1]
  obtain ⟨S2, e2, g2, _⟩ := st_save h1.slot (by decide) (int_ok (fun _ => ok5) (show u64I 2 by unfold u64I; decide) (show u64I 9 by unfold u64I; decide) (by decide) i1) (may_int i1)
  rw [decide_eq_true (by rw [t6]; decide)] at e2
  have h2 := g2 (by rw [t6]; decide)
  rw [e2]
  dsimp only
  rw [e_Settle (slot_D h2.slot) (by simp), h2.trust]
  simp only [Option.bind_some]
  have i2 : setT ((5, 0, 1, 2, 9, ByteArray.mk #[120], ()), true) true = some (9, 1, 0, 0, 0, ByteArray.empty, ()) := rfl
  have t7 : (textB (9, 1, 0, 0, 0, ByteArray.empty, ())).size = 6 := text_small (by decide) (by decide) (by decide) (by decide) (by decide) (by decide)
  rw [i2]
  obtain ⟨S3, e3, g3, _⟩ := st_save h2.slot (by decide) (set_ok (fun _ => h2.ok) i2) (may_set i2)
  rw [decide_eq_true (by rw [t7]; decide)] at e3
  have h3 := g3 (by rw [t7]; decide)
  rw [e3]
  dsimp only
  rw [e_Trust (slot_D h3.slot), e_Settle (slot_D h3.slot) (by simp), h3.trust]
  have i3 : setT ((9, 1, 0, 0, 0, ByteArray.empty, ()), true) true = none := rfl
  rw [i3]
  simp only [Option.bind_some, beq_self_eq_true, bytes_self, Bool.and_true, Bool.false_xor, Bool.not_false, cond_true]
  rfl
end Go.Proofs.Ytlfedmjjjbhnpaa.S2
