/-
  S2, nineteenth part: an operation looks at its slots and at the names of its footprint alone.
-/
import Derived.Test.YtgfanlafbjbkaaaS2r
set_option linter.unusedVariables false
set_option linter.unusedSimpArgs false
namespace Go.Proofs.Ytgfanlafbjbkaaa.S2
open Go

section
variable {m m' : Mem}

theorem Prim.of_loc (p : Prim) (x : SV) (h : ∀ k, k ∈ x.keys1 → m'.get k = m.get k) : p.of m' x = p.of m x := by
  cases p with
  | slc e r =>
    cases x with
    | sl k off len => simp only [Prim.of, h k (by simp [SV.keys1])]
    | slw k => simp only [Prim.of, h k (by simp [SV.keys1])]
    | _ => rfl
  | _ => cases x <;> rfl

theorem Row.of_loc : (r : Row) → (l : List SV) → (∀ x, x ∈ l → ∀ k, k ∈ x.keys1 → m'.get k = m.get k) → r.of m' l = r.of m l
  | .nil, [], _ => rfl
  | .nil, _ :: _, _ => rfl
  | .cons p .nil, [], _ => rfl
  | .cons p .nil, [x], h => by rw [Row.of_one, Row.of_one]; exact Prim.of_loc p x (h x List.mem_cons_self)
  | .cons p .nil, _ :: _ :: _, _ => rfl
  | .cons p (.cons q r), [], _ => rfl
  | .cons p (.cons q r), [_], _ => rfl
  | .cons p (.cons q r), x :: y :: l, h => by
    rw [Row.of_two, Row.of_two, Prim.of_loc p x (h x List.mem_cons_self), Row.of_loc (.cons q r) (y :: l) fun z hz => h z (List.mem_cons_of_mem _ hz)]

theorem res_loc (x : SV) (h : ∀ k, k ∈ x.keys1 → m'.get k = m.get k) : x.res m' = x.res m ∧ ∀ k, k ∈ (x.res m).keys1 → k ∈ x.keys1 := by
  cases x with
  | slw k =>
    simp only [SV.res, h k (by simp [SV.keys1]), true_and]
    intro q hq
    split at hq <;> first | exact hq | cases hq
  | _ => exact ⟨rfl, fun k hk => hk⟩

theorem elemOk_loc (sz : Nat) (x : SV) (h : ∀ k, k ∈ x.keys1 → m'.get k = m.get k) : elemOk sz x m' = elemOk sz x m := by
  cases x with
  | sl k off len => simp only [elemOk, h k (by simp [SV.keys1])]
  | _ => rfl

theorem loadx_loc (n : Option Nat) (x : SV) (h : ∀ k, k ∈ x.keys1 → m'.get k = m.get k) : loadx n x m' = loadx n x m := by
  cases x with
  | ptr k i fo => cases n <;> simp only [loadx, h k (by simp [SV.keys1])]
  | _ => cases n <;> rfl

theorem loadx_fp {n : Option Nat} {x : SV} {e : Eff} (h : loadx n x m = some e) : e.fp = x.keys1 := by
  unfold loadx at h
  repeat' split at h
  all_goals first | (cases h; rfl) | (cases h)

theorem storex_loc (n : Nat) (x v : SV) (h : ∀ k, k ∈ x.keys1 → m'.get k = m.get k) : storex n x v m' = storex n x v m := by
  cases x with
  | ptr k i fo => simp only [storex, h k (by simp [SV.keys1])]
  | _ => rfl

theorem storex_fp {n : Nat} {x v : SV} {e : Eff} (h : storex n x v m = some e) : e.fp = x.keys1 := by
  unfold storex at h
  repeat' split at h
  all_goals first | (cases h; rfl) | (cases h)

theorem cutx_loc (sz : Option Nat) (x : SV) (lo hi : Option SV) {α : Type} (K : SV → Option α) (h : ∀ k, k ∈ x.keys1 → m'.get k = m.get k) : cutx sz x lo hi m' K = cutx sz x lo hi m K := by
  cases sz with
  | none => rfl
  | some sz => simp only [cutx, elemOk_loc sz x h]

theorem idxx_loc (sz : Nat) (x i : SV) {α : Type} (K : SV → Option α) (h : ∀ k, k ∈ x.keys1 → m'.get k = m.get k) : idxx sz x i m' K = idxx sz x i m K := by
  cases i with
  | int k n => simp only [idxx, elemOk_loc sz x h]
  | _ => rfl

theorem freeze_loc : ∀ (ks : List Nat), (∀ k, k ∈ ks → m'.get k = m.get k) → freeze m' ks = freeze m ks
  | [], _ => rfl
  | k :: ks, h => by
    simp only [freeze, h k List.mem_cons_self, freeze_loc ks fun q hq => h q (List.mem_cons_of_mem _ hq)]

theorem litx_fp {d : Nat} {e : TypeId} {r : Row} : ∀ {parts : List (Nat × SV)} {xs : List r.T} {ks : List Nat} {ef : Eff}, litx d e r m parts xs ks = some ef →
    site d ∈ ef.fp ∧ (∀ k, k ∈ ks → k ∈ ef.fp) ∧ ∀ p, p ∈ parts → ∀ k, k ∈ p.2.cellsOf.flatMap SV.keys1 → k ∈ ef.fp
  | [], xs, ks, ef, h => by
    simp only [litx] at h
    split at h
    · cases h
      exact ⟨List.mem_cons_self, fun k hk => List.mem_cons_of_mem _ hk, fun p hp => by cases hp⟩
    · cases h
  | (i, v) :: l, xs, ks, ef, h => by
    simp only [litx] at h
    split at h
    · obtain ⟨h1, h2, h3⟩ := litx_fp h
      refine ⟨h1, fun k hk => h2 k (List.mem_append_left _ hk), fun p hp k hk => ?_⟩
      rcases List.mem_cons.1 hp with rfl | hp
      · exact h2 k (List.mem_append_right _ hk)
      · exact h3 p hp k hk
    · cases h

theorem litx_loc {d : Nat} {e : TypeId} {r : Row} : ∀ {parts : List (Nat × SV)} {xs : List r.T} {ks : List Nat}, m'.get (site d) = m.get (site d) → (∀ k, k ∈ ks → m'.get k = m.get k) →
    (∀ p, p ∈ parts → ∀ k, k ∈ p.2.cellsOf.flatMap SV.keys1 → m'.get k = m.get k) → litx d e r m' parts xs ks = litx d e r m parts xs ks
  | [], xs, ks, h1, h2, h3 => by simp only [litx, h1, freeze_loc ks h2]
  | (i, v) :: l, xs, ks, h1, h2, h3 => by
    simp only [litx]
    rw [Row.of_loc r v.cellsOf (fun x hx k hk => h3 (i, v) List.mem_cons_self k (List.mem_flatMap.2 ⟨x, hx, hk⟩))]
    split
    · exact litx_loc h1 (fun k hk => (List.mem_append.1 hk).elim (h2 k) (h3 (i, v) List.mem_cons_self k)) fun p hp => h3 p (List.mem_cons_of_mem _ hp)
    · rfl

theorem appx_fp {d : Nat} {e : TypeId} {r : Row} {bytes : Nat} {s x : SV} {ef : Eff} (h : appx d e r bytes s x m some = some ef) : site d ∈ ef.fp ∧ (∀ k, k ∈ x.keys1 → k ∈ ef.fp) ∧ ∀ k, k ∈ s.keys1 → k ∈ ef.fp := by
  unfold appx at h
  split at h
  · cases h
  · split at h
    · split at h
      · obtain ⟨_, h⟩ := chk_some h
        cases h
        exact ⟨List.mem_cons_self, fun k hk => List.mem_cons_of_mem _ hk, fun k hk => by cases hk⟩
      · cases h
    · split at h
      · split at h
        · split at h
          · obtain ⟨_, h⟩ := chk_some h
            cases h
            exact ⟨List.mem_cons_of_mem _ List.mem_cons_self, fun k hk => List.mem_cons_of_mem _ (List.mem_cons_of_mem _ hk), fun k hk => by
              rw [show k = _ from List.mem_singleton.1 hk]; exact List.mem_cons_self⟩
          · cases h
        · cases h
      · cases h
    · split at h
      · split at h
        · split at h
          · obtain ⟨_, h⟩ := chk_some h
            obtain ⟨_, h⟩ := chk_some h
            cases h
            exact ⟨List.mem_cons_of_mem _ List.mem_cons_self, fun k hk => List.mem_cons_of_mem _ (List.mem_cons_of_mem _ hk), fun k hk => by
              rw [show k = _ from List.mem_singleton.1 hk]; exact List.mem_cons_self⟩
          · cases h
        · cases h
      · cases h
    · cases h

theorem appx_loc {d : Nat} {e : TypeId} {r : Row} {bytes : Nat} {s x : SV} {α : Type} (K : Eff → Option α) (h1 : m'.get (site d) = m.get (site d)) (h2 : ∀ k, k ∈ x.keys1 → m'.get k = m.get k) (h3 : ∀ k, k ∈ s.keys1 → m'.get k = m.get k) :
    appx d e r bytes s x m' K = appx d e r bytes s x m K := by
  unfold appx listOf
  rw [Prim.of_loc _ x h2, h1]
  cases s with
  | sl k off len => simp only [h3 k (by simp [SV.keys1])]
  | slw k => simp only [h3 k (by simp [SV.keys1])]
  | _ => rfl

theorem growx_fp {d : Nat} {e : TypeId} {r : Row} {bytes : Nat} {s x : SV} {ef : Eff} (h : growx d e r bytes s x m some = some ef) : site d ∈ ef.fp := by
  unfold growx at h
  repeat' split at h
  all_goals first
    | (cases h; done)
    | (obtain ⟨_, h⟩ := chk_some h
       obtain ⟨_, h⟩ := chk_some h
       cases h
       exact List.mem_cons_self)

theorem growx_loc {d : Nat} {e : TypeId} {r : Row} {bytes : Nat} {s x : SV} {α : Type} (K : Eff → Option α) (h1 : m'.get (site d) = m.get (site d)) : growx d e r bytes s x m' K = growx d e r bytes s x m K := by
  unfold growx
  rw [h1]

theorem mkx_fp {d : Nat} {e : TypeId} {r : Row} {bytes : Nat} {s x : SV} {ef : Eff} (h : mkx d e r bytes s x m some = some ef) : site d ∈ ef.fp := by
  unfold mkx at h
  repeat' split at h
  all_goals first
    | (cases h; done)
    | (obtain ⟨_, h⟩ := chk_some h
       obtain ⟨_, h⟩ := chk_some h
       obtain ⟨_, h⟩ := chk_some h
       cases h
       exact List.mem_cons_self)

theorem mkx_loc {d : Nat} {e : TypeId} {r : Row} {bytes : Nat} {s x : SV} {α : Type} (K : Eff → Option α) (h1 : m'.get (site d) = m.get (site d)) : mkx d e r bytes s x m' K = mkx d e r bytes s x m K := by
  unfold mkx
  rw [h1]

/-! ### calls -/

mutual
theorem pure_loc : (x : SV) → (∀ k, k ∈ x.refs → m'.get k = m.get k) → x.pure m' = x.pure m ∧ x.lent m' = x.lent m
  | .sl k off len, h => by simp only [SV.pure, SV.lent, h k (by simp [SV.refs]), and_self]
  | .slw k, h => by simp only [SV.pure, SV.lent, h k (by simp [SV.refs]), and_self]
  | .agg cs, h => by
    obtain ⟨h1, h2⟩ := pureL_loc cs (by simpa [SV.refs] using h)
    simp only [SV.pure, SV.lent, h1, h2, and_self]
  | .dead, _ => ⟨rfl, rfl⟩
  | .int _ _, _ => ⟨rfl, rfl⟩
  | .bool _, _ => ⟨rfl, rfl⟩
  | .str _, _ => ⟨rfl, rfl⟩
  | .ps _ _ _, _ => ⟨rfl, rfl⟩
  | .nils, _ => ⟨rfl, rfl⟩
  | .pe, _ => ⟨rfl, rfl⟩
  | .ptr _ _ _, _ => ⟨rfl, rfl⟩
  | .pptr _ _ _ _ _, _ => ⟨rfl, rfl⟩
  | .nilp, _ => ⟨rfl, rfl⟩
  | .tup _, _ => ⟨rfl, rfl⟩
  | .fn _ _, _ => ⟨rfl, rfl⟩
  | .nilf, _ => ⟨rfl, rfl⟩
  | .nili, _ => ⟨rfl, rfl⟩
  | .nilm, _ => ⟨rfl, rfl⟩
theorem pureL_loc : (l : List SV) → (∀ k, k ∈ SV.refs.refsL l → m'.get k = m.get k) → SV.pure.pureL m' l = SV.pure.pureL m l ∧ SV.lent.lentL m' l = SV.lent.lentL m l
  | [], _ => ⟨rfl, rfl⟩
  | x :: l, h => by
    obtain ⟨h1, h2⟩ := pure_loc x fun k hk => h k (by simp [SV.refs.refsL, hk])
    obtain ⟨h3, h4⟩ := pureL_loc l fun k hk => h k (by simp [SV.refs.refsL, hk])
    simp only [SV.pure.pureL, SV.lent.lentL, h1, h2, h3, h4, and_self]
end

theorem addNew_sub : ∀ (l ks : List Nat) (k : Nat), k ∈ ks → k ∈ addNew ks l
  | [], ks, k, h => h
  | q :: l, ks, k, h => by
    simp only [addNew]
    split
    · exact addNew_sub l ks k h
    · exact addNew_sub l _ k (List.mem_append_left _ h)

theorem reach_sub : ∀ (n i : Nat) (ks : List Nat) (k : Nat), k ∈ ks → k ∈ reach m n i ks
  | 0, _, _, _, h => h
  | n + 1, i, ks, k, h => by
    simp only [reach]
    split
    · exact h
    · split
      · exact reach_sub n _ _ k (addNew_sub _ _ k h)
      · exact reach_sub n _ _ k h

theorem reach_loc : ∀ (n i : Nat) (ks : List Nat), (∀ k, k ∈ reach m n i ks → m'.get k = m.get k) → reach m' n i ks = reach m n i ks
  | 0, _, _, _ => rfl
  | n + 1, i, ks, h => by
    simp only [reach] at h ⊢
    cases hk : ks[i]? with
    | none => rfl
    | some k =>
      have hmem : k ∈ ks := List.mem_of_getElem? hk
      rw [hk] at h
      dsimp only at h ⊢
      have he : m'.get k = m.get k := by
        refine h k ?_
        split
        · exact reach_sub _ _ _ k (addNew_sub _ _ k hmem)
        · exact reach_sub _ _ _ k hmem
      rw [he]
      cases hg : m.get k with
      | none =>
        rw [hg] at h
        exact reach_loc n (i + 1) ks h
      | some o =>
        rw [hg] at h
        exact reach_loc n (i + 1) _ h

theorem closedIn_loc (ks : List Nat) (h : ∀ k, k ∈ ks → m'.get k = m.get k) : closedIn m' ks = closedIn m ks := by
  unfold closedIn
  rw [Bool.eq_iff_iff, List.all_eq_true, List.all_eq_true]
  exact ⟨fun h' k hk => by have := h' k hk; rwa [h k hk] at this, fun h' k hk => by have := h' k hk; rwa [h k hk]⟩

theorem subMem_loc (ρ : Nat → Option Nat) : ∀ (ks : List Nat) (i : Nat), (∀ k, k ∈ ks → m'.get k = m.get k) → subMem m' ρ ks i = subMem m ρ ks i
  | [], _, _ => rfl
  | k :: ks, i, h => by
    simp only [subMem, h k List.mem_cons_self, subMem_loc ρ ks (i + 1) fun q hq => h q (List.mem_cons_of_mem _ hq)]

theorem callBack_fp {d : Nat} {args : List SV} {lent ks : List Nat} {v : SV} {m1 : Mem} {e : Eff} (h : callBack d args lent ks m v m1 = some e) :
    e.fp = lent ++ (SV.refs.refsL args) ++ ks ++ (names (backMem ks d m1)).filter fun k => !ks.contains k := by
  unfold callBack at h
  split at h
  · cases h; rfl
  · cases h

theorem pureSome_loc (ps : Nat → Bool) : (l : List SV) → (i : Nat) → (∀ k, k ∈ SV.refs.refsL l → m'.get k = m.get k) → pureSome m' ps i l = pureSome m ps i l ∧ lentSome m' ps i l = lentSome m ps i l
  | [], i, _ => ⟨rfl, rfl⟩
  | x :: l, i, h => by
    obtain ⟨h1, h2⟩ := pure_loc x fun k hk => h k (by simp [SV.refs.refsL, hk])
    obtain ⟨h3, h4⟩ := pureSome_loc ps l (i + 1) fun k hk => h k (by simp [SV.refs.refsL, hk])
    simp only [pureSome, lentSome, h1, h2, h3, h4, and_self]

theorem callx_loc {cb : CB} (hn : cb.Nat) {byRef : FuncId → CC} {d : Nat} {f : FuncId} {args : List SV} {e : Eff} (h : callx cb byRef d f args m some = some e) (hm : ∀ k, k ∈ e.fp → m'.get k = m.get k) :
    callx cb byRef d f args m' some = some e := by
  unfold callx callWith at h ⊢
  split at h
  · rename_i hc
    rw [hn.call] at h
    obtain ⟨⟨v, m1⟩, hcall, hback⟩ := Option.bind_eq_some_iff.1 h
    have hback : callBack d args (callLent byRef f args m) (callKeys (callArgs byRef f args m) m) m v m1 = some e := by
      revert hback
      dsimp only
      cases callBack d args (callLent byRef f args m) (callKeys (callArgs byRef f args m) m) m v m1 <;> simp
    have hfp := callBack_fp hback
    have hpl : pureSome m' (byRef f).pureAt 0 args = pureSome m (byRef f).pureAt 0 args ∧ lentSome m' (byRef f).pureAt 0 args = lentSome m (byRef f).pureAt 0 args := pureSome_loc _ args 0 fun k hk => hm k (by rw [hfp]; simp [hk])
    have ha : callArgs byRef f args m' = callArgs byRef f args m := by unfold callArgs; rw [hpl.1]
    have hl : callLent byRef f args m' = callLent byRef f args m := by unfold callLent; rw [hpl.2]
    have hkm : ∀ k, k ∈ callKeys (callArgs byRef f args m) m → m'.get k = m.get k := fun k hk => hm k (by rw [hfp]; simp [hk])
    have hk : callKeys (callArgs byRef f args m) m' = callKeys (callArgs byRef f args m) m := reach_loc _ _ _ hkm
    rw [ha, hl, hk, closedIn_loc _ hkm, subMem_loc _ _ _ hkm, if_pos hc, hn.call, hcall]
    have hb' : callBack d args (callLent byRef f args m) (callKeys (callArgs byRef f args m) m) m' v m1 = some e := by
      rw [← hback]
      unfold callBack
      have hf : freeze m' (callLent byRef f args m) = freeze m (callLent byRef f args m) := freeze_loc _ fun k hk => hm k (by rw [hfp]; simp [hk])
      have hall : (((names (backMem (callKeys (callArgs byRef f args m) m) d m1)).filter fun k => !(callKeys (callArgs byRef f args m) m).contains k).all fun k => (m'.get k).isNone) =
          (((names (backMem (callKeys (callArgs byRef f args m) m) d m1)).filter fun k => !(callKeys (callArgs byRef f args m) m).contains k).all fun k => (m.get k).isNone) := by
        rw [Bool.eq_iff_iff, List.all_eq_true, List.all_eq_true]
        have hk : ∀ k, k ∈ ((names (backMem (callKeys (callArgs byRef f args m) m) d m1)).filter fun k => !(callKeys (callArgs byRef f args m) m).contains k) → m'.get k = m.get k := fun k hk => hm k (by rw [hfp]; exact List.mem_append_right _ hk)
        exact ⟨fun h' k hk' => by have := h' k hk'; rwa [hk k hk'] at this, fun h' k hk' => by have := h' k hk'; rwa [hk k hk']⟩
      rw [hf, hall, subMem_loc _ _ _ hkm]
    dsimp only [Option.bind]
    rw [hb']
  · cases h
end

theorem sets_loc {q : Nat} : ∀ (l : List (Nat × Ob)) (m m' : Mem), m'.get q = m.get q → (m'.sets l).get q = (m.sets l).get q
  | [], m, m', h => h
  | (k, o) :: l, m, m', h => by
    simp only [Mem.sets]
    refine sets_loc l _ _ ?_
    rw [Mem.get_set, Mem.get_set, h]

theorem nil1_loc {m m' : Mem} {key : Nat} {args : List SV} {h : Nat × Nat × TypeId × Row} (hm : ∀ k, k ∈ nilFp1 key args h → m'.get k = m.get k) : nil1 key args h m' = nil1 key args h m := by
  unfold nil1
  unfold nilFp1 at hm
  split at hm
  · rename_i k i fo ha
    rw [hm k (by simp), hm key (by simp)]
  · rfl

theorem nilsUpd_loc {d : Nat} {args : List SV} : ∀ (l : List (Nat × Nat × TypeId × Row)) (n : Nat) (m m' : Mem), (∀ k, k ∈ nilsFp d args l n → m'.get k = m.get k) → nilsUpd d args l n m' = nilsUpd d args l n m
  | [], n, m, m', _ => rfl
  | h :: l, n, m, m', hm => by
    simp only [nilsFp, List.mem_append] at hm
    have h1 := nil1_loc (m := m) (m' := m') (key := site d + 24 + n) (args := args) (h := h) fun k hk => hm k (.inl hk)
    simp only [nilsUpd]
    rw [h1, nilsUpd_loc l (n + 1) _ _ fun k hk => sets_loc _ _ _ (hm k (.inr hk))]

theorem callx2_loc {m m' : Mem} {cb : CB} (hn : cb.Nat) {byRef : FuncId → CC} {d : Nat} {f : FuncId} {args : List SV} {e : Eff} (h : callx2 cb byRef d f args m some = some e) (hm : ∀ k, k ∈ e.fp → m'.get k = m.get k) :
    callx2 cb byRef d f args m' some = some e := by
  unfold callx2 at h ⊢
  rw [callx_nat hn] at h ⊢
  obtain ⟨e1, h1, h2⟩ := Option.bind_eq_some_iff.1 h
  cases h2
  dsimp only at hm
  simp only [List.mem_append] at hm
  have hu := nilsUpd_loc (byRef f).nils 0 m m' fun k hk => hm k (.inl hk)
  rw [hu, callx_loc hn h1 fun k hk => sets_loc _ _ _ (hm k (.inr hk))]
  rfl

theorem Opd.ev_loc {x : Opd} {ts ts' : List SV} (h : ∀ t, t ∈ x.slots → ts'.getD t .dead = ts.getD t .dead) : x.ev ts' = x.ev ts := by
  cases x with
  | tmp t => exact h t (by simp [Opd.slots])
  | k c => rfl

theorem opx_loc {cb : CB} (hn : cb.Nat) {byRef : FuncId → CC} {d : Nat} {op : O2} {ts ts' : List SV} {m m' : Mem} {e : Eff} (h : opx cb byRef d op ts m some = some e)
    (ht : ∀ t, t ∈ op.opds.flatMap Opd.slots → ts'.getD t .dead = ts.getD t .dead) (hm : ∀ k, k ∈ e.fp → m'.get k = m.get k) : opx cb byRef d op ts' m' some = some e := by
  have hev : ∀ x, x ∈ op.opds → x.ev ts' = x.ev ts := fun x hx => Opd.ev_loc fun t htm => ht t (List.mem_flatMap.2 ⟨x, hx, htm⟩)
  cases op with
  | mov x => simp only [opx, hev x (by simp [O2.opds])] at h ⊢; exact h
  | pick c a b => simp only [opx, hev a (by simp [O2.opds]), hev b (by simp [O2.opds]), hev c (by simp [O2.opds])] at h ⊢; exact h
  | alloc zs =>
    simp only [opx] at h ⊢
    split at h
    · rename_i hc
      cases h
      rw [hm (site d) (by simp), if_pos hc]
    · cases h
  | box n x =>
    simp only [opx, hev x (by simp [O2.opds])] at h ⊢
    split at h
    · rename_i hc
      cases h
      rw [hm (site d) (by simp), if_pos hc]
    · cases h
  | build zs parts =>
    have he : (parts.map fun p => (p.1, p.2.1, p.2.2.ev ts')) = parts.map fun p => (p.1, p.2.1, p.2.2.ev ts) := List.map_congr_left fun p hp => by
      rw [hev p.2.2 (by simp only [O2.opds]; exact List.mem_map.2 ⟨p, hp, rfl⟩)]
    simp only [opx, he] at h ⊢
    exact h
  | lit e' r parts =>
    have he : (parts.map fun p => (p.1, p.2.ev ts')) = parts.map fun p => (p.1, p.2.ev ts) := List.map_congr_left fun p hp => by
      rw [hev p.2 (by simp only [O2.opds]; exact List.mem_map.2 ⟨p, hp, rfl⟩)]
    simp only [opx, he] at h ⊢
    have h' := someE_some h
    obtain ⟨h1, h2, h3⟩ := litx_fp h'
    rw [litx_loc (hm _ h1) (fun k hk => hm k (h2 k hk)) fun p hp k hk => hm k (h3 p hp k hk)]
    exact h
  | ld n x =>
    simp only [opx, hev x (by simp [O2.opds])] at h ⊢
    rw [loadx_loc n _ fun k hk => hm k (by rw [loadx_fp (someE_some h)]; exact hk)]
    exact h
  | st n x v =>
    simp only [opx, hev x (by simp [O2.opds]), hev v (by simp [O2.opds])] at h ⊢
    rw [storex_loc n _ _ fun k hk => hm k (by rw [storex_fp (someE_some h)]; exact hk)]
    exact h
  | nilck x => simp only [opx, hev x (by simp [O2.opds])] at h ⊢; exact h
  | bin tk op x y => simp only [opx, hev x (by simp [O2.opds]), hev y (by simp [O2.opds])] at h ⊢; exact h
  | eqs neg ks x y => simp only [opx, hev x (by simp [O2.opds]), hev y (by simp [O2.opds])] at h ⊢; exact h
  | un op x => simp only [opx, hev x (by simp [O2.opds])] at h ⊢; exact h
  | conv k x => simp only [opx, hev x (by simp [O2.opds])] at h ⊢; exact h
  | b2s e' x =>
    simp only [opx, hev x (by simp [O2.opds])] at h ⊢
    split at h
    · rename_i xs hxs
      cases h
      unfold listOf at hxs ⊢
      rw [Prim.of_loc _ _ (fun k hk => hm k hk), hxs]
    · cases h
  | sid x => simp only [opx, hev x (by simp [O2.opds])] at h ⊢; exact h
  | cut sz x lo hi =>
    have hlo : lo.map (·.ev ts') = lo.map (·.ev ts) := by
      cases lo with
      | none => rfl
      | some y => simp only [Option.map_some, hev y (by simp [O2.opds])]
    have hhi : hi.map (·.ev ts') = hi.map (·.ev ts) := by
      cases hi with
      | none => rfl
      | some y => simp only [Option.map_some, hev y (by simp [O2.opds])]
    simp only [opx, hev x (by simp [O2.opds]), hlo, hhi] at h ⊢
    have hfp : e.fp = (x.ev ts).keys1 := by
      rw [cutx_nat] at h
      obtain ⟨v, _, hv⟩ := Option.bind_eq_some_iff.1 h
      cases hv
      rfl
    obtain ⟨r1, r2⟩ := res_loc (m := m) (m' := m') (x.ev ts) fun k hk => hm k (by rw [hfp]; exact hk)
    rw [r1, cutx_loc sz _ _ _ _ fun k hk => hm k (by rw [hfp]; exact r2 k hk)]
    exact h
  | fa x off => simp only [opx, hev x (by simp [O2.opds])] at h ⊢; exact h
  | fv x off n => simp only [opx, hev x (by simp [O2.opds])] at h ⊢; exact h
  | ia sz x i =>
    simp only [opx, hev x (by simp [O2.opds]), hev i (by simp [O2.opds])] at h ⊢
    have hfp : e.fp = (x.ev ts).keys1 := by
      rw [idxx_nat] at h
      obtain ⟨v, _, hv⟩ := Option.bind_eq_some_iff.1 h
      cases hv
      rfl
    obtain ⟨r1, r2⟩ := res_loc (m := m) (m' := m') (x.ev ts) fun k hk => hm k (by rw [hfp]; exact hk)
    rw [r1, idxx_loc sz _ _ _ fun k hk => hm k (by rw [hfp]; exact r2 k hk)]
    exact h
  | iv x i => simp only [opx, hev x (by simp [O2.opds]), hev i (by simp [O2.opds])] at h ⊢; exact h
  | ext x i => simp only [opx, hev x (by simp [O2.opds])] at h ⊢; exact h
  | call f args =>
    have he : (args.map (·.ev ts')) = args.map (·.ev ts) := List.map_congr_left fun p hp => hev p (by simpa [O2.opds] using hp)
    simp only [opx, he] at h ⊢
    exact callx2_loc hn h hm
  | callv x args =>
    have he : (args.map (·.ev ts')) = args.map (·.ev ts) := List.map_congr_left fun p hp => hev p (by simp [O2.opds, hp])
    simp only [opx, he, hev x (by simp [O2.opds])] at h ⊢
    split at h
    · rename_i hx
      exact callx2_loc hn h hm
    · cases h
  | len k x =>
    simp only [opx, hev x (by simp [O2.opds])] at h ⊢
    have hfp : e.fp = (x.ev ts).keys1 := by
      split at h
      · cases h; rfl
      · cases h
    obtain ⟨r1, r2⟩ := res_loc (m := m) (m' := m') (x.ev ts) fun k hk => hm k (by rw [hfp]; exact hk)
    rw [r1]
    exact h
  | app e' r bytes s x =>
    simp only [opx, hev x (by simp [O2.opds]), hev s (by simp [O2.opds])] at h ⊢
    obtain ⟨h1, h2, h3⟩ := appx_fp h
    rw [appx_loc some (hm _ h1) (fun k hk => hm k (h2 k hk)) fun k hk => hm k (h3 k hk)]
    exact h
  | mn x y => simp only [opx, hev x (by simp [O2.opds]), hev y (by simp [O2.opds])] at h ⊢; exact h
  | mx x y => simp only [opx, hev x (by simp [O2.opds]), hev y (by simp [O2.opds])] at h ⊢; exact h
  | grow e' r bytes s n =>
    simp only [opx, hev n (by simp [O2.opds]), hev s (by simp [O2.opds])] at h ⊢
    rw [growx_loc some (hm _ (growx_fp h))]
    exact h
  | mk e' r bytes s n =>
    simp only [opx, hev n (by simp [O2.opds]), hev s (by simp [O2.opds])] at h ⊢
    rw [mkx_loc some (hm _ (mkx_fp h))]
    exact h
  | no => cases h
  | mkfn f cap =>
    have he : (cap.map (·.ev ts')) = cap.map (·.ev ts) := List.map_congr_left fun p hp => hev p (by simpa [O2.opds] using hp)
    simp only [opx, he] at h ⊢
    exact h
end Go.Proofs.Ytgfanlafbjbkaaa.S2
