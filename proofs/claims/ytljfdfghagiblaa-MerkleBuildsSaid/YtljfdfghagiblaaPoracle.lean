/- The oracle of the program and that of the document, in plain words: maps, draws, hashes. -/
import Derived.Test.YtljfdfghagiblaaPmwire
import Derived.Test.YtljfdfghagiblaaGideal
import Derived.Test.YtljfdfghagiblaaGr03
set_option linter.unusedVariables false
set_option linter.unusedSimpArgs false
namespace Go.Proofs.Ytljfdfghagiblaa.S2.Mk
open Go Go.Proofs.Ytljfdfghagiblaa.S2

/-! ### maps -/
section
variable {κ ν : Type} [DecidableEq κ] {eq : κ → κ → Bool} (hl : ∀ a b, eq a b = true ↔ a = b)
include hl
theorem mfind_mput (k k' : κ) (v : ν) : ∀ es : List (κ × ν), mfind eq k (mput eq k' v es) = if k = k' then some v else mfind eq k es
  | [] => by
    simp only [mput, mfind]
    by_cases h : k = k'
    · rw [if_pos h, (hl _ _).2 h]
    · rw [if_neg h]
      cases h2 : eq k k' with
      | true => exact (h ((hl _ _).1 h2)).elim
      | false => rfl
  | e :: es => by
    have ih := mfind_mput k k' v es
    simp only [mput]
    cases h2 : eq k' e.1 with
    | true =>
      have hk := (hl _ _).1 h2
      simp only [mfind]
      by_cases h : k = k'
      · rw [if_pos h, (hl _ _).2 (h.trans hk)]
      · rw [if_neg h]
        cases h3 : eq k e.1 with
        | true => exact (h (((hl _ _).1 h3).trans hk.symm)).elim
        | false => rfl
    | false =>
      simp only [mfind]
      cases h3 : eq k e.1 with
      | true =>
        by_cases h : k = k'
        · subst h
          rw [h3] at h2
          cases h2
        · rw [if_neg h]
      | false => exact ih
theorem mget_mput (z : ν) (k k' : κ) (v : ν) (es : List (κ × ν)) : mget eq z k (mput eq k' v es) = if k = k' then v else mget eq z k es := by
  unfold mget
  rw [mfind_mput hl]
  split <;> rfl
end

abbrev eqI : Int → Int → Bool := (Row.cons (Prim.int IntKind.u64) Row.nil).eqb
abbrev eqS : ByteArray → ByteArray → Bool := (Row.cons Prim.str Row.nil).eqb
theorem eqI_l : ∀ a b : Int, eqI a b = true ↔ a = b := fun a b => by
  show (a == b) = true ↔ _
  exact beq_iff_eq
theorem eqS_l : ∀ a b : ByteArray, eqS a b = true ↔ a = b := fun a b => by
  show (a.toList == b.toList) = true ↔ _
  rw [bytes_beq]
  exact decide_eq_true_iff

/-! ### the program's oracle -/
abbrev TagK := Int × ByteArray
abbrev SealK := Int × Int × ByteArray × ByteArray
abbrev ToldK := Int × Int × Int × ByteArray
structure Or where
  draws : List Int
  drawn : Int
  bad : Bool
  issued : List (Int × Int)
  met : List (Int × Int)
  hashes : List (ByteArray × Int)
  tags : List (TagK × Int)
  seals : List (SealK × Int)
  opens : List (ToldK × Int)
  plains : List ByteArray
abbrev MI := M_ideal_Oracle_Fresh
def Or.m (o : Or) : MI := ((o.draws, o.drawn, o.bad, ()), o.issued, o.met, o.hashes, o.tags, o.seals, o.opens, o.plains, ())

/-- What is drawn next. -/
def nextD (draws : List Int) (k : Int) : Int := if k < draws.length then draws.getD k.toNat 0 else IntKind.u64.wrap (9223372036854775808 + IntKind.u64.wrap k)
def Or.clash (o : Or) (h : Int) : Bool := h == 0 || (decide (mget eqI 0 h o.issued > 0) || decide (mget eqI 0 h o.met > 0))
def Or.fresh (o : Or) : Int × Or := (nextD o.draws o.drawn, { o with drawn := IntKind.i64.wrap (o.drawn + 1), bad := o.bad || o.clash (nextD o.draws o.drawn), issued := mput eqI (nextD o.draws o.drawn) (IntKind.i64.wrap (mget eqI 0 (nextD o.draws o.drawn) o.issued + 1)) o.issued })
def Or.hash (o : Or) (t : ByteArray) : Int × Or := match mfind eqS t o.hashes with
  | some h => (h, o)
  | none => (o.fresh.1, { o.fresh.2 with hashes := mput eqS t o.fresh.1 o.fresh.2.hashes })
def Or.meet (o : Or) (h : Int) : Or := if mget eqI 0 h o.issued = 0 then { o with met := mput eqI h 1 o.met } else o

theorem e_Fresh (o : Or) (h : 0 ≤ o.drawn) : F_ideal_Oracle_Fresh () o.m = some (o.fresh.1, o.fresh.2.m) := by
  obtain ⟨draws, drawn, bad, issued, met, hashes, tags, seals, opens, plains⟩ := o
  simp only [Or.m, Or.fresh, Or.clash] at *
  rw [Fe_ideal_Oracle_Fresh]
  unfold tree_ideal_Oracle_Fresh nextD
  have fin : ∀ (n : Int) (K : Bool → Option O_ideal_Oracle_Fresh),
      cond (n == 0) (K true) (cond (decide (mget eqI 0 n issued > 0)) (K true) (cond (decide (mget eqI 0 n met > 0)) (K true) (K bad))) = K (bad || (n == 0 || (decide (mget eqI 0 n issued > 0) || decide (mget eqI 0 n met > 0)))) := by
    intro n K
    cases n == 0 <;> cases decide (mget eqI 0 n issued > 0) <;> cases decide (mget eqI 0 n met > 0) <;> cases bad <;> rfl
  by_cases hd : drawn < (draws.length : Int)
  · rw [cd_t hd, cd_t h, cd_t hd, if_pos hd]
    exact fin (draws.getD drawn.toNat 0) (fun b => some (draws.getD drawn.toNat 0, (draws, IntKind.i64.wrap (drawn + 1), b, ()), mput eqI (draws.getD drawn.toNat 0) (IntKind.i64.wrap (mget eqI 0 (draws.getD drawn.toNat 0) issued + 1)) issued, met, hashes, tags, seals, opens, plains, ()))
  · rw [cd_f hd, if_neg hd]
    exact fin (IntKind.u64.wrap (9223372036854775808 + IntKind.u64.wrap drawn)) (fun b => some (IntKind.u64.wrap (9223372036854775808 + IntKind.u64.wrap drawn), (draws, IntKind.i64.wrap (drawn + 1), b, ()), mput eqI (IntKind.u64.wrap (9223372036854775808 + IntKind.u64.wrap drawn)) (IntKind.i64.wrap (mget eqI 0 (IntKind.u64.wrap (9223372036854775808 + IntKind.u64.wrap drawn)) issued + 1)) issued, met, hashes, tags, seals, opens, plains, ()))

theorem e_Hash (o : Or) (t : ByteArray) (h : 0 ≤ o.drawn) : F_ideal_Oracle_Hash (t, ()) o.m = some ((o.hash t).1, (o.hash t).2.m) := by
  have hf := e_Fresh o h
  obtain ⟨draws, drawn, bad, issued, met, hashes, tags, seals, opens, plains⟩ := o
  simp only [Or.m, Or.hash] at *
  rw [Fe_ideal_Oracle_Hash]
  unfold tree_ideal_Oracle_Hash
  cases hm : mfind eqS t hashes with
  | some v =>
    have e1 : (!mhas eqS t hashes) = false := by unfold mhas; rw [hm]; rfl
    have e2 : mget eqS 0 t hashes = v := by unfold mget; rw [hm]; rfl
    refine (c_f e1).trans ?_
    show some (mget eqS 0 t hashes, _) = _
    rw [e2]
  | none =>
    have e1 : (!mhas eqS t hashes) = true := by unfold mhas; rw [hm]; rfl
    refine (c_t e1).trans ?_
    rw [hf]
    rfl

theorem e_Meet (o : Or) (h : Int) : F_ideal_Oracle_Meet (h, ()) o.m = some ((), (o.meet h).m) := by
  obtain ⟨draws, drawn, bad, issued, met, hashes, tags, seals, opens, plains⟩ := o
  simp only [Or.m, Or.meet] at *
  rw [Fe_ideal_Oracle_Meet]
  unfold tree_ideal_Oracle_Meet
  by_cases hq : mget eqI 0 h issued = 0
  · rw [if_pos hq]
    exact c_t (beq_iff_eq.2 hq)
  · rw [if_neg hq]
    exact c_f (beq_false_of_ne hq)
theorem e_Drawn (o : Or) : F_ideal_Oracle_Drawn () o.m = some (o.drawn, ()) := rfl
theorem e_Bad (o : Or) : F_ideal_Oracle_Bad () o.m = some (o.bad, ()) := rfl
def Or.new (draws : List Int) : Or := ⟨draws, 0, false, [], [], [], [], [], [], []⟩
theorem e_New {draws : List Int} (h : draws.length ≤ 17592186044416) : F_ideal_New (draws, ()) () = some ((), (Or.new draws).m) := by
  rw [Fe_ideal_New]
  unfold tree_ideal_New F_s_Clone_u
  rw [cd_t (by show draws.length * 8 ≤ _; omega)]
  rfl

/-! ### the document's oracle -/
abbrev RW := Int × Int × Int × ByteArray × ByteArray × Int
abbrev rw0 : RW := (0, 0, 0, ByteArray.empty, ByteArray.empty, 0)
structure Rf where
  draws : List Int
  rows : List RW
  met : List Int
  bads : Int
def Rf.m (p : Rf) : M_ref03_Oracle_draw := ((p.bads, ()), p.draws, p.rows, p.met, ())
def Rf.mo (p : Rf) : (Int × Unit) × List Int × Unit × List Int × List RW × Unit := ((p.bads, ()), p.draws, (), p.met, p.rows, ())
def Rf.clash (p : Rf) (h : Int) : Bool := h == 0 || (p.rows.any (fun y => y.2.2.2.2.2 == h) || p.met.any (fun y => y == h))
def Rf.draw (p : Rf) (t k n : Int) (a b : ByteArray) : Int × Rf := (nextD p.draws p.rows.length, { p with rows := p.rows ++ [(t, k, n, a, b, nextD p.draws p.rows.length)], bads := if p.clash (nextD p.draws p.rows.length) then IntKind.i64.wrap (p.bads + 1) else p.bads })
def rmatch (t k n : Int) (a b : ByteArray) (y : RW) : Bool := t != 0 && (y.1 == t && (y.2.1 == k && (y.2.2.1 == n && (y.2.2.2.1.toList == a.toList && y.2.2.2.2.1.toList == b.toList))))
def Rf.value (p : Rf) (t k n : Int) (a b : ByteArray) : Int × Rf := match p.rows.find? (rmatch t k n a b) with
  | some y => (y.2.2.2.2.2, p)
  | none => p.draw t k n a b

theorem getD_pre {α : Type} (pre suf : List α) (x z : α) : (pre ++ x :: suf).getD pre.length z = x := by simp [List.getD]

theorem issued_loop (h z : Int) (d : List Int) (me : List Int) : ∀ (suf pre : List RW), (pre ++ suf).length ≤ 1000000000 →
    L_ref03_Oracle_Issued_2 (h, (pre.length : Int), ()) ((z, ()), d, pre ++ suf, me, ()) = some (if suf.any (fun y => y.2.2.2.2.2 == h) then .inl ((true, ()), ((z, ()), d, pre ++ suf, me, ())) else .inr ((), ((z, ()), d, pre ++ suf, me, ())))
  | [], pre, hlen => by
    rw [Le_ref03_Oracle_Issued_2]
    unfold ltree_ref03_Oracle_Issued_2
    rw [cd_f (by simp)]
    rfl
  | y :: suf, pre, hlen => by
    rw [Le_ref03_Oracle_Issued_2]
    unfold ltree_ref03_Oracle_Issued_2
    have hl : (pre.length : Int) < ((pre ++ y :: suf).length : Int) := by simp only [List.length_append, List.length_cons]; omega
    rw [cd_t hl, cd_t (by omega), cd_t hl, Nat.zero_add, Int.toNat_natCast, getD_pre, List.any_cons]
    cases hy : y.2.2.2.2.2 == h with
    | true => rfl
    | false =>
      have ih := issued_loop h z d me suf (pre ++ [y]) (by simpa using hlen)
      have e : IntKind.i64.wrap ((pre.length : Int) + 1) = ((pre ++ [y]).length : Int) := by
        simp only [List.length_append, List.length_cons] at hlen
        rw [i64id (by omega) (by omega)]; simp
      rw [e]
      simp only [List.append_assoc, List.singleton_append] at ih
      exact ih
theorem e_Issued (p : Rf) (h : Int) (hl : p.rows.length ≤ 1000000000) : F_ref03_Oracle_Issued (h, ()) p.m = some (p.rows.any (fun y => y.2.2.2.2.2 == h), ()) := by
  obtain ⟨draws, rows, met, bads⟩ := p
  simp only [Rf.m] at *
  rw [Fe_ref03_Oracle_Issued]
  unfold tree_ref03_Oracle_Issued
  have := issued_loop h bads draws met rows [] (by simpa using hl)
  simp only [List.nil_append, List.length_nil] at this
  rw [show ((0 : Nat) : Int) = 0 from rfl] at this
  rw [this]
  cases rows.any (fun y => y.2.2.2.2.2 == h) <;> rfl
theorem shown_loop (h z : Int) (d : List Int) (rs : List RW) : ∀ (suf pre : List Int), (pre ++ suf).length ≤ 1000000000 →
    L_ref03_Oracle_Shown_2 (h, (pre.length : Int), ()) ((z, ()), d, rs, pre ++ suf, ()) = some (if suf.any (fun y => y == h) then .inl ((true, ()), ((z, ()), d, rs, pre ++ suf, ())) else .inr ((), ((z, ()), d, rs, pre ++ suf, ())))
  | [], pre, hlen => by
    rw [Le_ref03_Oracle_Shown_2]
    unfold ltree_ref03_Oracle_Shown_2
    rw [cd_f (by simp)]
    rfl
  | y :: suf, pre, hlen => by
    rw [Le_ref03_Oracle_Shown_2]
    unfold ltree_ref03_Oracle_Shown_2
    have hl : (pre.length : Int) < ((pre ++ y :: suf).length : Int) := by simp only [List.length_append, List.length_cons]; omega
    rw [cd_t hl, cd_t (by omega), cd_t hl, Nat.zero_add, Int.toNat_natCast, getD_pre, List.any_cons]
    cases hy : y == h with
    | true => rfl
    | false =>
      have ih := shown_loop h z d rs suf (pre ++ [y]) (by simpa using hlen)
      have e : IntKind.i64.wrap ((pre.length : Int) + 1) = ((pre ++ [y]).length : Int) := by
        simp only [List.length_append, List.length_cons] at hlen
        rw [i64id (by omega) (by omega)]; simp
      rw [e]
      simp only [List.append_assoc, List.singleton_append] at ih
      exact ih
theorem e_Shown (p : Rf) (h : Int) (hl : p.met.length ≤ 1000000000) : F_ref03_Oracle_Shown (h, ()) p.m = some (p.met.any (fun y => y == h), ()) := by
  obtain ⟨draws, rows, met, bads⟩ := p
  simp only [Rf.m] at *
  rw [Fe_ref03_Oracle_Shown]
  unfold tree_ref03_Oracle_Shown
  have := shown_loop h bads draws rows met [] (by simpa using hl)
  simp only [List.nil_append, List.length_nil] at this
  rw [show ((0 : Nat) : Int) = 0 from rfl] at this
  rw [this]
  cases met.any (fun y => y == h) <;> rfl

theorem e_draw (p : Rf) (t k n z : Int) (a b : ByteArray) (hr : p.rows.length ≤ 1000000000) (hm : p.met.length ≤ 1000000000) :
    F_ref03_Oracle_draw ((t, k, n, a, b, z, ()), ()) p.m = some ((p.draw t k n a b).1, (p.draw t k n a b).2.mo) := by
  have hi := fun h => e_Issued p h hr
  have hs := fun h => e_Shown p h hm
  obtain ⟨draws, rows, met, bads⟩ := p
  simp only [Rf.m, Rf.mo, Rf.draw, Rf.clash] at *
  rw [Fe_ref03_Oracle_draw]
  unfold tree_ref03_Oracle_draw
  simp only [hi, hs, Option.bind_some, List.nil_append, List.length_cons, List.length_nil, Nat.zero_add]
  have hlen : decide ((rows.length + 1) * 64 ≤ 140737488355328) = true := decide_eq_true (by omega)
  simp only [hlen, cond_true]
  have fin : ∀ (q : Int) (K : Int → Option O_ref03_Oracle_draw),
      cond (q == 0) (K (IntKind.i64.wrap (bads + 1))) (cond (rows.any fun y => y.2.2.2.2.2 == q) (K (IntKind.i64.wrap (bads + 1))) (cond (met.any fun y => y == q) (K (IntKind.i64.wrap (bads + 1))) (K bads))) =
        K (if (q == 0 || ((rows.any fun y => y.2.2.2.2.2 == q) || met.any fun y => y == q)) = true then IntKind.i64.wrap (bads + 1) else bads) := by
    intro q K
    cases q == 0 <;> cases (rows.any fun y => y.2.2.2.2.2 == q) <;> cases (met.any fun y => y == q) <;> rfl
  unfold nextD
  by_cases hd : (rows.length : Int) < (draws.length : Int)
  · rw [cd_t hd, cd_t hd, if_pos hd, Int.toNat_natCast]
    exact fin (draws.getD rows.length 0) (fun z => some (draws.getD rows.length 0, (z, ()), draws, (), met, rows ++ [(t, k, n, a, b, draws.getD rows.length 0)], ()))
  · rw [cd_f hd, if_neg hd]
    exact fin (IntKind.u64.wrap (9223372036854775808 + IntKind.u64.wrap (rows.length : Int))) (fun z => some (IntKind.u64.wrap (9223372036854775808 + IntKind.u64.wrap (rows.length : Int)), (z, ()), draws, (), met, rows ++ [(t, k, n, a, b, IntKind.u64.wrap (9223372036854775808 + IntKind.u64.wrap (rows.length : Int)))], ()))

/-- Where a row is that matches. -/
def ixOf (f : RW → Bool) : List RW → Nat → Int
  | [], _ => -1
  | y :: l, k => if f y then (k : Int) else ixOf f l (k + 1)
theorem ixOf_find (f : RW → Bool) : ∀ (suf pre : List RW), match suf.find? f with
    | some y => 0 ≤ ixOf f suf pre.length ∧ ixOf f suf pre.length < (pre ++ suf).length ∧ (pre ++ suf).getD (ixOf f suf pre.length).toNat rw0 = y
    | none => ixOf f suf pre.length = -1
  | [], pre => rfl
  | y :: suf, pre => by
    rw [List.find?_cons]
    unfold ixOf
    cases hy : f y with
    | true =>
      refine ⟨?_, ?_, ?_⟩
      · simp
      · simp only [if_true, List.length_append, List.length_cons]; omega
      · simp only [if_true, Int.toNat_natCast]; exact getD_pre ..
    | false =>
      have ih := ixOf_find f suf (pre ++ [y])
      simp only [List.append_assoc, List.singleton_append, List.length_append, List.length_cons, List.length_nil] at ih
      simpa using ih
theorem at_loop (t k n z w : Int) (a b : ByteArray) (d me : List Int) : ∀ (suf pre : List RW), (pre ++ suf).length ≤ 1000000000 →
    L_ref03_Oracle_at_2 ((pre.length : Int), ()) ((z, ()), d, pre ++ suf, me, (t, k, n, a, b, w, ()), ()) =
      some (if ixOf (rmatch t k n a b) suf pre.length = -1 then .inr ((), ((z, ()), d, pre ++ suf, me, ())) else .inl ((ixOf (rmatch t k n a b) suf pre.length, ()), ((z, ()), d, pre ++ suf, me, ())))
  | [], pre, hlen => by
    rw [Le_ref03_Oracle_at_2]
    unfold ltree_ref03_Oracle_at_2
    rw [cd_f (by simp)]
    rfl
  | y :: suf, pre, hlen => by
    rw [Le_ref03_Oracle_at_2]
    unfold ltree_ref03_Oracle_at_2
    have hl : (pre.length : Int) < ((pre ++ y :: suf).length : Int) := by simp only [List.length_append, List.length_cons]; omega
    rw [cd_t hl, cd_t (by omega), cd_t hl, Nat.zero_add, Int.toNat_natCast, getD_pre]
    have ih := at_loop t k n z w a b d me suf (pre ++ [y]) (by simpa using hlen)
    have e : IntKind.i64.wrap ((pre.length : Int) + 1) = ((pre ++ [y]).length : Int) := by
      simp only [List.length_append, List.length_cons] at hlen
      rw [i64id (by omega) (by omega)]; simp
    rw [e]
    have e2 : (pre ++ [y]) ++ suf = pre ++ y :: suf := by simp
    have e3 : (pre ++ [y]).length = pre.length + 1 := by simp
    rw [e2] at ih
    rw [ih, e3]
    have hx : ixOf (rmatch t k n a b) (y :: suf) pre.length = if rmatch t k n a b y then (pre.length : Int) else ixOf (rmatch t k n a b) suf (pre.length + 1) := rfl
    rw [hx]
    have hn : ¬ ((pre.length : Int) = -1) := by omega
    unfold rmatch
    cases t != 0 <;> cases y.1 == t <;> cases y.2.1 == k <;> cases y.2.2.1 == n <;> cases y.2.2.2.1.toList == a.toList <;> cases y.2.2.2.2.1.toList == b.toList <;> first | rfl | (simp only [cond_true, Bool.and_true, if_true, if_neg hn])
theorem e_at (p : Rf) (t k n w : Int) (a b : ByteArray) (hr : p.rows.length ≤ 1000000000) :
    F_ref03_Oracle_at ((t, k, n, a, b, w, ()), ()) p.m = some (ixOf (rmatch t k n a b) p.rows 0, p.m) := by
  obtain ⟨draws, rows, met, bads⟩ := p
  simp only [Rf.m] at *
  rw [Fe_ref03_Oracle_at]
  unfold tree_ref03_Oracle_at
  have := at_loop t k n bads w a b draws met rows [] (by simpa using hr)
  simp only [List.nil_append, List.length_nil] at this
  rw [show ((0 : Nat) : Int) = 0 from rfl] at this
  rw [this]
  by_cases h : ixOf (rmatch t k n a b) rows 0 = -1
  · rw [if_pos h, h]; rfl
  · rw [if_neg h]; rfl
theorem e_value (p : Rf) (t k n z : Int) (a b : ByteArray) (hr : p.rows.length ≤ 1000000000) (hm : p.met.length ≤ 1000000000) :
    F_ref03_Oracle_value ((t, k, n, a, b, z, ()), ()) p.m = some ((p.value t k n a b).1, (p.value t k n a b).2.mo) := by
  have h1 := e_at p t k n z a b hr
  have h2 := e_draw p t k n z a b hr hm
  have h3 := ixOf_find (rmatch t k n a b) p.rows []
  obtain ⟨draws, rows, met, bads⟩ := p
  simp only [Rf.m, Rf.value, List.nil_append, List.length_nil] at *
  rw [Fe_ref03_Oracle_value]
  unfold tree_ref03_Oracle_value
  rw [h1]
  simp only [Option.bind_some]
  cases hf : rows.find? (rmatch t k n a b) with
  | some y =>
    rw [hf] at h3
    obtain ⟨g1, g2, g3⟩ := h3
    rw [cd_t g1, cd_t g1, cd_t g2, Nat.zero_add, g3]
    rfl
  | none =>
    rw [hf] at h3
    rw [h3, cd_f (by decide), h2]
    rfl
def Rf.hash (p : Rf) (t : ByteArray) : Int × Rf := p.value 1 0 0 t ByteArray.empty
theorem r_Hash (p : Rf) (t : ByteArray) (hr : p.rows.length ≤ 1000000000) (hm : p.met.length ≤ 1000000000) : F_ref03_Oracle_Hash (t, ()) p.m = some ((p.hash t).1, (p.hash t).2.mo) := by
  have h1 := e_value p 1 0 0 0 t ByteArray.empty hr hm
  obtain ⟨draws, rows, met, bads⟩ := p
  simp only [Rf.m, Rf.hash] at *
  rw [Fe_ref03_Oracle_Hash]
  unfold tree_ref03_Oracle_Hash
  rw [h1]
  rfl
theorem r_Drawn (p : Rf) : F_ref03_Oracle_Drawn () p.m = some ((p.rows.length : Int), ()) := rfl
theorem r_Bad (p : Rf) : F_ref03_Oracle_Bad () p.m = some (decide (p.bads > 0), ()) := rfl
def Rf.new (draws : List Int) : Rf := ⟨draws, [], [], 0⟩
theorem r_New {draws : List Int} (h : draws.length ≤ 17592186044416) : F_ref03_New (draws, ()) () = some ((), (Rf.new draws).m) := by
  rw [Fe_ref03_New]
  unfold tree_ref03_New
  rw [cd_t (by omega)]
  rfl
end Go.Proofs.Ytljfdfghagiblaa.S2.Mk
