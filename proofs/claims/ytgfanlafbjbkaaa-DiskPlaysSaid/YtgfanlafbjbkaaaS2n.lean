/-
  S2, fourteenth part: values that are built; small operations.
-/
import Derived.Test.YtgfanlafbjbkaaaS2m
import Derived.Laws.Tables
import Derived.Laws.MakeOwn
set_option linter.unusedVariables false
set_option linter.unusedSimpArgs false
namespace Go.Proofs.Ytgfanlafbjbkaaa.S2
open Go

section
variable {P : Program} {w : World} {A : Nat → Prop} {β : Loc}

theorem fillx_sound {place : Nat → Option (Nat × Nat)} : ∀ (ps : List (Nat × Nat × SV)) (cs cs' : List SV) (C : Array Value) (vps : List (Nat × Value)), fillx cs ps = some cs' → SV.RL w A β cs C.toList → (∀ u ∈ C.toList, u.oneCell' = true) →
    vps.length = ps.length → (∀ (j : Nat) p q, ps[j]? = some p → vps[j]? = some q → place q.1 = some (p.1, p.2.1) ∧ p.2.2.R w A β q.2) →
    ∃ C', Instr.fill place C vps = some C' ∧ SV.RL w A β cs' C'.toList ∧ ∀ u ∈ C'.toList, u.oneCell' = true
  | [], cs, cs', C, [], h, hl, h1, _, _ => by
    simp only [fillx] at h
    cases h
    exact ⟨C, rfl, hl, h1⟩
  | (off, n, x) :: ps, cs, cs', C, (i, v) :: vps, h, hl, h1, hlen, hp => by
    simp only [fillx] at h
    split at h
    · rename_i hc
      obtain ⟨hn, hok, hfit⟩ := hc
      obtain ⟨hpl, hR⟩ := hp 0 _ _ rfl rfl
      obtain ⟨hcl, hc1⟩ := cellsOf_R hR hok
      have hvl : v.cells.toList.length = n := by rw [SV.RL_len _ _ hcl, hn]
      have hvs : v.cells.size = n := by simpa using hvl
      have hCl : C.toList.length = cs.length := SV.RL_len _ _ hl
      have hCs : C.size = cs.length := by simpa using hCl
      have hfold := fold_cells' off v.cells C (by omega)
      have hRL : SV.RL w A β (cs.take off ++ x.cellsOf ++ cs.drop (off + n)) (v.cells.zipIdx.foldl (fun cs (c, j) => cs.setIfInBounds (off + j) c) C).toList := by
        rw [hfold, hvs]
        exact SV.RL_append _ _ _ _ (SV.RL_append _ _ _ _ (SV.RL_take _ _ _ hl) hcl) (SV.RL_drop _ _ _ hl)
      have h1' : ∀ u ∈ (v.cells.zipIdx.foldl (fun cs (c, j) => cs.setIfInBounds (off + j) c) C).toList, u.oneCell' = true := by
        intro u hu
        rw [hfold] at hu
        simp only [List.mem_append] at hu
        rcases hu with (hu | hu) | hu
        · exact h1 u (List.mem_of_mem_take hu)
        · exact hc1 u hu
        · exact h1 u (List.mem_of_mem_drop hu)
      obtain ⟨C', h2, h3, h4⟩ := fillx_sound ps _ cs' _ vps h hRL h1' (by simpa using hlen) fun j p q hpj hqj => hp (j + 1) p q (by simpa using hpj) (by simpa using hqj)
      refine ⟨C', ?_, h3, h4⟩
      simp only [Instr.fill]
      simp only at hpl
      rw [hpl]
      simp only
      rw [if_neg (by simp; omega)]
      exact h2
    · cases h
  | [], cs, cs', C, _ :: _, h, hl, h1, hlen, hp => by simp at hlen
  | _ :: _, cs, cs', C, [], h, hl, h1, hlen, hp => by simp at hlen

theorem zeroT_sound {t : TypeId} {zs : List SV} (h : zeroT P t = some zs) : ∃ i z, P.info? t = some i ∧ i.zero = some z ∧ z.cells.size = i.size ∧ allSome constSV1 z.cells.toList = some zs := by
  unfold zeroT at h
  split at h
  · rename_i i hi
    split at h
    · rename_i z hz
      split at h
      · rename_i hs
        exact ⟨i, z, hi, hz, hs, h⟩
      · cases h
    · cases h
  · cases h

theorem build_sound {t : TypeId} {zs : List SV} (hz : zeroT P t = some zs) {pl : Nat → Option (Nat × Nat)} (hpl : placesOf P t = some pl) {ps : List (Nat × Nat × SV)} {cs' : List SV} (h : fillx zs ps = some cs') {vps : Array (Nat × Value)}
    (hlen : vps.toList.length = ps.length) (hp : ∀ (j : Nat) p q, ps[j]? = some p → vps.toList[j]? = some q → pl q.1 = some (p.1, p.2.1) ∧ p.2.2.R w A β q.2) : ∃ u, (Instr.build t vps).run P w = .ok u w ∧ (SV.agg cs').R w A β u := by
  obtain ⟨i, z, hi, hzz, hs, hc⟩ := zeroT_sound hz
  obtain ⟨hl, h1⟩ := constSVs_R (w := w) (A := A) (β := β) hc
  obtain ⟨C', h2, h3, h4⟩ := fillx_sound (place := pl) ps zs cs' z.cells vps.toList h hl h1 hlen hp
  refine ⟨.agg C', run_build w t vps C' ?_, ?_⟩
  · unfold Program.built
    unfold placesOf at hpl
    rw [hi]
    split at hpl
    · rename_i fs hu
      rw [hu]
      split at hpl
      · rename_i pl' hm
        cases hpl
        simp only [hzz, hm]
        exact h2
      · cases hpl
    · rename_i n e hu
      rw [hu]
      split at hpl
      · rename_i ie hie
        cases hpl
        simp only [hzz, hie]
        exact h2
      · cases hpl
    · cases hpl
  · simp only [SV.R]
    exact ⟨C'.toList, by simp, h3, h4⟩

theorem lenx_str {x : SV} {v : SV} (h : lenx .str x = some v) {vx : Value} (hx : x.R w A β vx) {t : TypeId} (ht : P.underlying t = some .string) (ty : TypeId) : ∃ u, (Builtin.len_ #[t] ty #[vx]).run P w = .ok u w ∧ v.R w A β u := by
  unfold lenx at h
  split at h
  · cases h
    simp only [SV.R] at hx
    subst hx
    exact ⟨.int .i64 _, by simp [Builtin.len_, run_underlying ht, goInt], rfl⟩
  all_goals first
    | (rename_i heq _; cases heq; done)
    | (rename_i heq; cases heq; done)
    | cases h

theorem lenx_slc {x : SV} {v : SV} (h : lenx .slc x = some v) {vx : Value} (hx : x.R w A β vx) {t e : TypeId} (ht : P.underlying t = some (.slice e)) (ty : TypeId) : ∃ u, (Builtin.len_ #[t] ty #[vx]).run P w = .ok u w ∧ v.R w A β u := by
  cases x with
  | ps e' r xs =>
    simp only [lenx] at h
    cases h
    simp only [SV.R, Prim.R] at hx
    obtain ⟨ad, cap, rfl, _⟩ := hx
    exact ⟨.int .i64 _, by simp [Builtin.len_, run_underlying ht, goInt], rfl⟩
  | sl k off len =>
    simp only [lenx] at h
    cases h
    simp only [SV.R] at hx
    obtain ⟨l, _, hp⟩ := hx
    have : ∃ A' c, vx = .slice A' len c := by
      cases l with
      | box => exact hp.elim
      | row => obtain ⟨A', c, rfl, _⟩ := hp; exact ⟨_, _, rfl⟩
      | froz => obtain ⟨A', c, rfl, _⟩ := hp; exact ⟨_, _, rfl⟩
      | gone => obtain ⟨A', c, rfl, _⟩ := hp; exact ⟨_, _, rfl⟩
    obtain ⟨A', c, rfl⟩ := this
    exact ⟨.int .i64 _, by simp [Builtin.len_, run_underlying ht, goInt], rfl⟩
  | nils =>
    simp only [lenx] at h
    cases h
    simp only [SV.R] at hx
    subst hx
    exact ⟨.int .i64 0, by simp [Builtin.len_, run_underlying ht, goInt], rfl⟩
  | pe =>
    simp only [lenx] at h
    cases h
    simp only [SV.R] at hx
    obtain ⟨a, cap, rfl⟩ := hx
    exact ⟨.int .i64 0, by simp [Builtin.len_, run_underlying ht, goInt], rfl⟩
  | _ => simp [lenx] at h

theorem lenx_cap {x : SV} {v : SV} (h : lenx .cap x = some v) {vx : Value} (hx : x.R w A β vx) {t e : TypeId} (ht : P.underlying t = some (.slice e)) (ty : TypeId) : ∃ u, (Builtin.cap_ #[t] ty #[vx]).run P w = .ok u w ∧ v.R w A β u := by
  cases x with
  | nils =>
    simp only [lenx] at h
    cases h
    simp only [SV.R] at hx
    subst hx
    exact ⟨.int .i64 0, by simp [Builtin.cap_, run_underlying ht, goInt], rfl⟩
  | _ => simp [lenx] at h

/-! ### lists of zeros -/

theorem zeroRow_R : (r : Row) → (cs : List Value) → zeroRow r cs = true → r.R w A r.zero cs
  | .nil, [], _ => rfl
  | .nil, _ :: _, h => by simp [zeroRow] at h
  | .cons p r, [], h => by cases p <;> simp [zeroRow] at h
  | .cons p r, v :: l, h => by
    have hp : (p.R w A p.zero v) ∧ zeroRow r l = true := by
      cases p with
      | int k =>
        cases v <;> simp [zeroRow] at h
        obtain ⟨⟨rfl, rfl⟩, h⟩ := h
        exact ⟨rfl, h⟩
      | bool =>
        cases v <;> simp [zeroRow] at h
        obtain ⟨rfl, h⟩ := h
        exact ⟨rfl, h⟩
      | str =>
        cases v <;> simp [zeroRow] at h
        rename_i s
        obtain ⟨h1, h⟩ := h
        refine ⟨?_, h⟩
        simp only [Prim.R, Prim.zero]
        congr 1
      | slc e r' =>
        unfold zeroRow at h
        split at h <;> simp_all
        · rename_i heq _; cases heq
          exact ⟨none, 0, rfl, ⟨Nat.le_refl _, fun _ => rfl⟩, fun j hj => absurd hj (by simp [Prim.zero])⟩
    match r, l, hp with
    | .nil, [], ⟨hp, _⟩ => exact ⟨v, rfl, hp⟩
    | .nil, _ :: _, ⟨_, h⟩ => simp [zeroRow] at h
    | .cons q r', l, ⟨hp, h⟩ => exact ⟨v, l, rfl, hp, zeroRow_R (.cons q r') l h⟩

theorem zeros_rows {r : Row} {z : Array Value} (hz : zeroRow r z.toList = true) (hs : z.size = r.size) (n : Nat) (tail : List Value) : RowsR w A r (List.replicate n r.zero) (((Array.range (n * r.size)).map fun i => z[i % z.size]!).toList ++ tail) := by
  intro j hj
  have hjn : j < n := by simpa using hj
  have e : ((((Array.range (n * r.size)).map fun i => z[i % z.size]!).toList ++ tail).drop (j * r.size)).take r.size = z.toList := by
    apply List.ext_getElem?
    intro i
    rw [List.getElem?_take]
    split
    · rename_i hi
      have hlt : j * r.size + i < n * r.size := by
        have : (j + 1) * r.size ≤ n * r.size := Nat.mul_le_mul_right _ hjn
        rw [Nat.add_mul] at this
        omega
      rw [List.getElem?_drop, List.getElem?_append_left (by simp; exact hlt)]
      have hm : (j * r.size + i) % z.size = i := by rw [hs, Nat.mul_comm, Nat.mul_add_mod, Nat.mod_eq_of_lt hi]
      have hi' : i < z.size := by omega
      simp [hlt, hm, hi']
    · rename_i hi
      rw [List.getElem?_eq_none (by simp; omega)]
  rw [e, show (List.replicate n r.zero).get ⟨j, hj⟩ = r.zero by simp]
  exact zeroRow_R r _ hz

theorem mkx_sound {Z : Nat → Prop} {m : Mem} (hm : MR w Z β m) {d : Nat} {e : TypeId} {r : Row} {bytes : Nat} {n c : SV} {ef : Eff} (h : mkx d e r bytes n c m some = some ef) {t : TypeId} {i : TypeInfo} {z : Value} (ht : P.underlying t = some (.slice e)) (hi : P.info? e = some i)
    (hz : i.zero = some z) (hzs : z.cells.size = i.size) (hsz : r.size = i.size) (h0 : 0 < r.size) (hby : i.bytes = bytes) (hb0 : 0 < i.bytes) (hzr : zeroRow r z.cells.toList = true) {vn vc : Value} (hn : n.R w (β.away Z) β vn) (hc : c.R w (β.away Z) β vc) :
    ∃ v' w', (Instr.makeSlice t vn vc).run P w = .ok v' w' ∧ PostE Z w β m ef v' w' := by
  subst hby
  unfold mkx at h
  split at h
  · rename_i n c
    split at h
    · rename_i hfree
      obtain ⟨h1, h⟩ := chk_some h
      obtain ⟨h2, h⟩ := chk_some h
      obtain ⟨h3, h⟩ := chk_some h
      cases h
      simp only [decide_eq_true_eq] at h1 h2 h3
      simp only [SV.R] at hn hc
      subst hn hc
      have hcb : c ≤ c * i.bytes := by
        have := Int.mul_le_mul_of_nonneg_left (show (1 : Int) ≤ i.bytes by omega) (show 0 ≤ c by omega)
        omega
      have hsz' : i.size = r.size := hsz.symm
      have hrun := run_make (P := P) w t e i z ht hi hz .i64 .i64 n c h1 h2 (by rw [Int.mul_comm]; omega) (by omega)
      rw [hsz'] at hrun
      refine ⟨_, _, hrun, ?_⟩
      have hown := World.ownsRow_lit (base := 0) (size := r.size) (e := e) w (madeCells z.cells (c.toNat * r.size)) c.toNat (Nat.zero_le _) (by simp only [maxLen]; omega) (size_madeCells _ _)
      have hown' := ownsRow_take (ad := some w.heap.size) (k := n.toNat) (by simpa [atG] using hown) (by omega)
      have hsplit : (madeCells z.cells (c.toNat * r.size)).toList.take (n.toNat * r.size) = ((Array.range (n.toNat * r.size)).map fun j => z.cells[j % z.cells.size]!).toList ++ [] := by
        have hle : n.toNat * r.size ≤ c.toNat * r.size := Nat.mul_le_mul_right _ (by omega)
        rw [List.append_nil]
        apply List.ext_getElem?
        intro j
        rw [List.getElem?_take]
        split
        · rename_i hj
          have hj' : j < c.toNat * r.size := by omega
          simp [madeCells, hj, hj']
        · rename_i hj
          rw [List.getElem?_eq_none (by simp; omega)]
      rw [hsplit] at hown'
      exact post_row hm (d := site d) (by simpa using hfree) (old := none) (s := .slice none 0 0) (by intro k l h; cases h) h0 (xs := List.replicate n.toNat r.zero) (by rw [List.length_replicate]; exact hown') (World.grownBy_alloc w _ none)
        (by intro b hb; simp [Value.ownBlock] at hb) (.inr (by simp [Value.ownBlock])) (fun A' _ => zeros_rows hzr (by omega) _ _) _
    · cases h
  · cases h

theorem run_append_zeros {t u ty e : TypeId} {i : TypeInfo} {z : Value} (ht : P.underlying t = some (.slice e)) (hu : P.underlying u = some (.int .i64)) (hi : P.info? e = some i) (hz : i.zero = some z) (hzs : z.cells.size = i.size) (h0 : 0 < i.size)
    {n : Int} (hn : 0 < n) (hb : n * i.bytes ≤ 140737488355328) (hb0 : 0 < i.bytes) :
    (Builtin.append_ #[t, u] ty #[.slice none 0 0, .int .i64 n]).run P w = .ok (.slice (some ⟨w.heap.size, 0, none⟩) n.toNat (grownCap w n.toNat 0 e)) (w.drew.alloc (.cells (Builtin.zeroCells z.cells n.toNat ++ Builtin.zeroCells z.cells (grownCap w n.toNat 0 e - n.toNat)) e)) := by
  have hnb : n ≤ n * i.bytes := by
    have := Int.mul_le_mul_of_nonneg_left (show (1 : Int) ≤ i.bytes by omega) (show 0 ≤ n by omega)
    omega
  have hw : IntKind.i64.wrap n = n := by rw [IntKind.wrap_i64]; omega
  have n1 : ¬ n < 0 := by omega
  have n2 : ¬ (281474976710656 < n * (i.bytes : Int)) := by omega
  have n3 : ¬ (n.toNat = 0) := by omega
  have n4 : ¬ n ≤ 0 := by omega
  have n5 : ¬ (9223372036854775807 < max n 0) := by omega
  have n6 : ¬ (281474976710656 < Builtin.nextslicecap n.toNat 0 * i.bytes) := by
    rw [nextslicecap_zero (by omega)]
    have : ((n.toNat * i.bytes : Nat) : Int) = n * i.bytes := by rw [Int.natCast_mul, Int.toNat_of_nonneg (by omega)]
    omega
  have n7 : ¬ (n.toNat * i.size = 0) := by
    intro h
    rcases Nat.mul_eq_zero.1 h with h | h <;> omega
  simp [Builtin.append_, run_underlying ht, run_underlying hu, sizeOf, typeInfo, zeroValue, hi, hz, asInt, asIntOf, hw, n1, n2, n3, n4, n5, n6, Question.forced, run_firstCells_none, newRow, grownCap]
  exact fun h => (n7 h).elim

theorem growx_sound {Z : Nat → Prop} {m : Mem} (hm : MR w Z β m) {d : Nat} {e : TypeId} {r : Row} {bytes : Nat} {s n : SV} {ef : Eff} (h : growx d e r bytes s n m some = some ef) {t u ty : TypeId} {i : TypeInfo} {z : Value} (ht : P.underlying t = some (.slice e)) (hu : P.underlying u = some (.int .i64)) (hi : P.info? e = some i)
    (hz : i.zero = some z) (hzs : z.cells.size = i.size) (hsz : r.size = i.size) (h0 : 0 < r.size) (hby : i.bytes = bytes) (hb0 : 0 < i.bytes) (hzr : zeroRow r z.cells.toList = true) {vs vn : Value} (hs : s.R w (β.away Z) β vs) (hn : n.R w (β.away Z) β vn) :
    ∃ v' w', (Builtin.append_ #[t, u] ty #[vs, vn]).run P w = .ok v' w' ∧ PostE Z w β m ef v' w' := by
  subst hby
  unfold growx at h
  split at h
  · rename_i n
    split at h
    · rename_i hfree
      obtain ⟨h1, h⟩ := chk_some h
      obtain ⟨h2, h⟩ := chk_some h
      cases h
      simp only [decide_eq_true_eq] at h1 h2
      simp only [SV.R] at hs hn
      subst hs hn
      have hnb : n ≤ n * i.bytes := by
        have := Int.mul_le_mul_of_nonneg_left (show (1 : Int) ≤ i.bytes by omega) (show 0 ≤ n by omega)
        omega
      have hrun := run_append_zeros (P := P) (w := w) (ty := ty) ht hu hi hz hzs (by omega) h1 h2 hb0
      refine ⟨_, _, hrun, ?_⟩
      have hge := grownCap_ge w n.toNat 0 e
      have hcm : grownCap w n.toNat 0 e ≤ maxLen := grownCap_le_maxLen w n.toNat 0 e (by simp only [maxLen]; omega)
      have hzn : (Builtin.zeroCells z.cells n.toNat).toList = ((Array.range (n.toNat * r.size)).map fun j => z.cells[j % z.cells.size]!).toList ++ [] := by
        rw [List.append_nil]
        simp only [Builtin.zeroCells, hzs, hsz]
      have hlen : ((Array.range (n.toNat * r.size)).map fun j => z.cells[j % z.cells.size]!).toList.length = n.toNat * r.size := by simp
      have hown : (w.drew.alloc (.cells (Builtin.zeroCells z.cells n.toNat ++ Builtin.zeroCells z.cells (grownCap w n.toNat 0 e - n.toNat)) e)).ownsRow 0 e r.size (.slice (some ⟨w.heap.size, 0, none⟩) n.toNat (grownCap w n.toNat 0 e)) n.toNat
          (((Array.range (n.toNat * r.size)).map fun j => z.cells[j % z.cells.size]!).toList ++ []) := by
        refine ⟨by rw [List.append_nil, hlen], .inr ⟨w.heap.size, _, _, rfl, Nat.zero_le _, heap_alloc_new w.drew _, hge, hcm, ?_, ?_⟩⟩
        · simp only [Array.size_append, size_zeroCells, hzs, ← hsz, ← Nat.add_mul]
          congr 1
          omega
        · rw [Array.toList_append, hzn, List.append_nil]
          exact List.take_left' hlen
      have hg : w.grownBy (w.drew.alloc (.cells (Builtin.zeroCells z.cells n.toNat ++ Builtin.zeroCells z.cells (grownCap w n.toNat 0 e - n.toNat)) e)) (Value.ownBlock (.slice none 0 0)) :=
        ⟨rfl, rfl, rfl, by simp, fun k hk _ => RowKit.Below.heap_alloc w.drew _ k hk⟩
      exact post_row hm (d := site d) (by simpa using hfree) (old := none) (s := .slice none 0 0) (by intro k l h; cases h) h0 (xs := List.replicate n.toNat r.zero) (by rw [List.length_replicate]; exact hown) hg
        (by intro b hb; simp [Value.ownBlock] at hb) (.inr (by simp [Value.ownBlock])) (fun A' _ => zeros_rows hzr (by omega) _ _) _
    · cases h
  · cases h

theorem zerosT_sound {e : TypeId} {r : Row} {b : Nat} (h : zerosT P e = some (r, b)) : rowOf P e = some r ∧ ∃ i z, P.info? e = some i ∧ i.zero = some z ∧ z.cells.size = i.size ∧ 0 < i.bytes ∧ zeroRow r z.cells.toList = true ∧ i.bytes = b := by
  unfold zerosT at h
  split at h
  · rename_i r' i hr hi
    split at h
    · rename_i z hz
      split at h
      · rename_i hc
        cases h
        exact ⟨hr, i, z, hi, hz, hc.1, hc.2.1, hc.2.2, rfl⟩
      · cases h
    · cases h
  · cases h

theorem ivx_sound {x i : SV} {v : SV} (h : ivx x i some = some v) {vx vi : Value} (hx : x.R w A β vx) (hi : i.R w A β vi) {t : TypeId} (ht : P.underlying t = some .string) : ∃ u, (Instr.index t vx vi).run P w = .ok u w ∧ v.R w A β u := by
  unfold ivx at h
  split at h
  · rename_i s k n
    obtain ⟨h0, h⟩ := chk_some h
    obtain ⟨h1, h⟩ := chk_some h
    cases h
    simp at h0 h1
    simp only [SV.R] at hx hi
    subst hx hi
    have hlt : n.toNat < s.size := by omega
    have hlt' : n.toNat < s.data.toList.length := by simpa using hlt
    refine ⟨_, ?_, rfl⟩
    have he : s[n.toNat]? = some s[n.toNat] := getElem?_pos s n.toNat hlt
    simp only [Instr.index, asIntOf, Sem.run_bind, Sem.run_pure, Result.andThen_ok, run_underlying ht, if_pos h0, he]
    simp only [strAt, List.getD, List.getElem?_eq_getElem hlt', Option.getD_some]
    rfl
  · cases h

theorem rowU8 : (Row.cons (.int .u8) .nil).size = 1 := rfl

theorem b2s_sound {Z : Nat → Prop} {m : Mem} (hm : MR w Z β m) {e : TypeId} {x : SV} {xs : List Int} (h : listOf e (.cons (.int .u8) .nil) x m = some xs) {v : Value} (hx : x.R w (β.away Z) β v) {src dst : TypeId} (hs : P.underlying src = some (.slice e))
    (he : P.underlying e = some (.int .u8)) (hd : P.underlying dst = some .string) : (convert src dst v).run P w = .ok (.string (strOfNums xs)) w := by
  obtain ⟨cells, ad, c, rfl, hle, hl, hpos, hc, hr⟩ := listOf_at hm (by simp [Row.size]) h hx
  rw [rowU8, Nat.mul_one] at hl
  cases ad with
  | none =>
    have hy : xs.length = 0 := by
      rcases Nat.eq_zero_or_pos (List.length xs) with h | h
      · exact h
      · obtain ⟨a, ha⟩ := hpos h; cases ha
    have : xs = [] := List.eq_nil_of_length_eq_zero hy
    subst this
    exact run_convert_bytes_nil w src e hs he 0 c dst hd
  | some a =>
    have hcv : cells = xs.map (Value.int .u8) := by
      apply List.ext_getElem?
      intro j
      by_cases hj : j < xs.length
      · have := hr j hj
        simp only [Row.R, Prim.R, rowU8] at this
        obtain ⟨u, hu, rfl⟩ := this
        rw [Nat.mul_one] at hu
        have h2 : cells[j]? = some (.int .u8 (xs.get ⟨j, hj⟩)) := by
          have := congrArg (fun l => l[0]?) hu
          rw [List.getElem?_take, if_pos (by omega), List.getElem?_drop, Nat.add_zero] at this
          exact this
        rw [h2, List.getElem?_map, List.getElem?_eq_getElem hj]
        rfl
      · rw [List.getElem?_eq_none (by rw [hl]; exact Nat.le_of_not_lt hj), List.getElem?_eq_none (by simp; exact Nat.le_of_not_lt hj)]
    have hload := run_loadCells_list (P := P) w a cells (hc a rfl)
    rw [hl] at hload
    rw [run_convert_bytes_string w src dst e _ _ c hs he hd, run_bytesToString w _ _ c xs (by rw [hload, hcv]), foldl_push_bytes]
    simp [strOfNums, ByteArray.empty, ByteArray.emptyWithCapacity]
    rfl
end
end Go.Proofs.Ytgfanlafbjbkaaa.S2
