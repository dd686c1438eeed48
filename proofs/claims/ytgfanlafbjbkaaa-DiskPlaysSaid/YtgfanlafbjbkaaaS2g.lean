/-
  S2, seventh part: pieces, elements, lengths, lists that are read.
-/
import Derived.Test.YtgfanlafbjbkaaaS2f
set_option linter.unusedVariables false
set_option linter.unusedSimpArgs false
namespace Go.Proofs.Ytgfanlafbjbkaaa.S2
open Go

section
variable {P : Program} {w : World} {A : Nat → Prop} {β : Loc}

/-- The model's bounds of a piece. -/
theorem bounds_run {n cap : Nat} {lo hi : Option SV} {l h : Nat} (hb : bounds n lo hi (fun l h => some (l, h)) = some (l, h)) (hc : n ≤ cap) {lv hv : Option Value}
    (hl : ∀ x, lo = some x → ∃ v, lv = some v ∧ x.R w A β v) (hl0 : lo = none → lv = none) (hh : ∀ x, hi = some x → ∃ v, hv = some v ∧ x.R w A β v) (hh0 : hi = none → hv = none) (isSlice : Bool) :
    l ≤ h ∧ h ≤ n ∧ (Instr.sliceBounds isSlice n cap lv hv none).run P w = .ok (l, h, cap) w := by
  unfold bounds at hb
  split at hb
  · cases hb
    rw [hl0 rfl, hh0 rfl]
    exact ⟨by omega, by omega, by simp [Instr.sliceBounds]⟩
  · obtain ⟨h1, hb⟩ := chk_some hb
    obtain ⟨h2, hb⟩ := chk_some hb
    cases hb
    obtain ⟨v, hv1, hr⟩ := hl _ rfl
    simp only [SV.R] at hr
    subst hr
    rw [hv1, hh0 rfl]
    simp at h1 h2
    refine ⟨by omega, by omega, ?_⟩
    simp [Instr.sliceBounds, run_sliceBound w _ _ n _ h1 h2]
  · obtain ⟨h1, hb⟩ := chk_some hb
    obtain ⟨h2, hb⟩ := chk_some hb
    cases hb
    obtain ⟨v, hv1, hr⟩ := hh _ rfl
    simp only [SV.R] at hr
    subst hr
    rw [hv1, hl0 rfl]
    simp at h1 h2
    refine ⟨by omega, by omega, ?_⟩
    cases isSlice <;> simp [Instr.sliceBounds, run_sliceBound w _ _ cap _ h1 (show _ ≤ (cap : Int) by omega)]
  · rename_i k ln k' hn
    obtain ⟨h1, hb⟩ := chk_some hb
    obtain ⟨h2, hb⟩ := chk_some hb
    obtain ⟨h3, hb⟩ := chk_some hb
    cases hb
    obtain ⟨v, hv1, hr⟩ := hh _ rfl
    obtain ⟨v', hv2, hr'⟩ := hl _ rfl
    simp only [SV.R] at hr hr'
    subst hr hr'
    rw [hv1, hv2]
    simp at h1 h2 h3
    refine ⟨by omega, by omega, ?_⟩
    have e : ((hn.toNat : Nat) : Int) = hn := by omega
    cases isSlice <;> simp [Instr.sliceBounds, run_sliceBound w _ _ cap _ (show 0 ≤ hn by omega) (show _ ≤ (cap : Int) by omega), run_sliceBound w _ _ hn.toNat _ h1 (by omega)]
  · cases hb

theorem cut_str {x : SV} {lo hi : Option SV} {m : Mem} {v : SV} (h : cutx none x lo hi m some = some v) {t : TypeId} (ht : P.underlying t = some .string) {vx : Value} (hx : x.R w A β vx) {lv hv : Option Value}
    (hl : ∀ x, lo = some x → ∃ v, lv = some v ∧ x.R w A β v) (hl0 : lo = none → lv = none) (hh : ∀ x, hi = some x → ∃ v, hv = some v ∧ x.R w A β v) (hh0 : hi = none → hv = none) :
    ∃ u, (Instr.sliceAt t vx lv hv none).run P w = .ok u w ∧ v.R w A β u := by
  simp only [cutx] at h
  split at h
  · rename_i s
    rw [bounds_nat] at h
    obtain ⟨⟨l, h'⟩, hb, hk⟩ := Option.bind_eq_some_iff.1 h
    cases hk
    simp only [SV.R] at hx
    subst hx
    obtain ⟨h1, h2, h3⟩ := bounds_run (P := P) (cap := s.size) hb (Nat.le_refl _) hl hl0 hh hh0 false
    refine ⟨.string (s.extract l h'), ?_, rfl⟩
    simp [Instr.sliceAt, Instr.slice, run_underlying ht, h3]
  · cases h
end

theorem piece_cut {P : Program} {w : World} {t e : TypeId} {i : TypeInfo} (ht : P.underlying t = some (.slice e)) (hi : P.info? e = some i) {vx : Value} {lv hv : Option Value} {len l h' : Nat}
    (hrun : ∀ c, len ≤ c → l ≤ h' ∧ h' ≤ len ∧ (Instr.sliceBounds true len c lv hv none).run P w = .ok (l, h', c) w) :
    (∀ {ad : Option Nat} {cap n sz off : Nat}, pieceOf ad cap n sz off len vx → sz = i.size → ∃ u, (Instr.sliceAt t vx lv hv none).run P w = .ok u w ∧ pieceOf ad cap n sz (off + l) (h' - l) u) := by
  rintro ad cap n sz off ⟨A', c, rfl, hlc, hoff, hcap, ha⟩ hsz
  obtain ⟨h1, h2, h3⟩ := hrun c hlc
  refine ⟨.slice (if c = l then A' else A'.map (·.add (l * i.size))) (h' - l) (c - l), ?_, ?_⟩
  · simp [Instr.sliceAt, Instr.slice, run_underlying ht, h3, sizeOf_run hi]
  · refine ⟨_, _, rfl, by omega, by omega, by omega, fun hcond => ?_⟩
    by_cases hcl : c = l
    · rw [if_pos hcl]
      rcases hcond with h4 | h4
      · omega
      · have hoff0 : off = 0 := by omega
        rw [ha (.inr hoff0), h4, hoff0]
    · rw [if_neg hcl, ha (.inl (by omega)), hsz]
      cases ad with
      | none => rfl
      | some g => simp [add_mk, Nat.add_mul]

theorem cut_slc {P : Program} {w : World} {Z : Nat → Prop} {β : Loc} {m : Mem} (hm : MR w Z β m) {sz : Nat} {x : SV} {lo hi : Option SV} {v : SV} (h : cutx (some sz) x lo hi m some = some v) {t e : TypeId} {i : TypeInfo} (ht : P.underlying t = some (.slice e)) (hi' : P.info? e = some i) (hsz : sz = i.size)
    {vx : Value} (hx : x.R w (β.away Z) β vx) {lv hv : Option Value}
    (hl : ∀ x, lo = some x → ∃ v, lv = some v ∧ x.R w (β.away Z) β v) (hl0 : lo = none → lv = none) (hh : ∀ x, hi = some x → ∃ v, hv = some v ∧ x.R w (β.away Z) β v) (hh0 : hi = none → hv = none) :
    ∃ u, (Instr.sliceAt t vx lv hv none).run P w = .ok u w ∧ v.R w (β.away Z) β u := by
  simp only [cutx] at h
  split at h
  · cases h
  · rename_i hel
    split at h
    · rename_i e' r xs
      rw [bounds_nat] at h
      obtain ⟨⟨l, h'⟩, hb, hk⟩ := Option.bind_eq_some_iff.1 h
      cases hk
      simp only [SV.R, Prim.R] at hx
      obtain ⟨ad, cap, rfl, hcap, hel'⟩ := hx
      have hcap1 := hcap.1
      have hr : r.size = i.size := by simp only [elemOk, beq_iff_eq] at hel; omega
      obtain ⟨h1, h2, h3⟩ := bounds_run (P := P) (cap := cap) hb hcap.1 hl hl0 hh hh0 true
      have hlen : ((xs.take h').drop l).length = h' - l := by simp; omega
      refine ⟨.slice (if cap = l then ad else ad.map (·.add (l * i.size))) (h' - l) (cap - l), ?_, ?_⟩
      · simp [Instr.sliceAt, Instr.slice, run_underlying ht, h3, sizeOf_run hi']
      · simp only [SV.R, Prim.R]
        refine ⟨_, _, by rw [show List.length ((xs.take h').drop l) = h' - l from hlen], by rw [show List.length ((xs.take h').drop l) = h' - l from hlen]; exact ⟨by have := hcap.1; omega, fun h0 => by split at h0 <;> first | omega | (have := hcap.2 (by simpa using h0); omega)⟩, fun j hj => ?_⟩
        have hj' : j < h' - l := by rw [← hlen]; exact hj
        obtain ⟨a, cs, ha, hA, hlt, hcl, hc, hR⟩ := hel' (l + j) (by omega)
        refine ⟨a.add (l * i.size), cs, ?_, by rw [add_block]; exact hA, by rw [add_block]; exact hlt, hcl, fun q u hu => ?_, ?_⟩
        · rw [if_neg (by omega), ha]; rfl
        · rw [add_add]
          have := hc q u hu
          rw [← hr]
          rwa [show l * r.size + (j * r.size + q) = (l + j) * r.size + q by rw [Nat.add_mul]; omega]
        · have e1 : ((xs.take h').drop l).get ⟨j, hj⟩ = xs.get ⟨l + j, by omega⟩ := by simp
          rw [show List.get (α := r.T) ((xs.take h').drop l) ⟨j, hj⟩ = xs.get ⟨l + j, by omega⟩ from e1]
          exact hR
    · rw [bounds_nat] at h
      obtain ⟨⟨l, h'⟩, hb, hk⟩ := Option.bind_eq_some_iff.1 h
      cases hk
      simp only [SV.R] at hx
      subst hx
      obtain ⟨h1, h2, h3⟩ := bounds_run (P := P) (cap := 0) hb (Nat.le_refl _) hl hl0 hh hh0 true
      obtain rfl : h' = 0 := by omega
      obtain rfl : l = 0 := by omega
      refine ⟨.slice none 0 0, ?_, rfl⟩
      simp [Instr.sliceAt, Instr.slice, run_underlying ht, h3, sizeOf_run hi']
    · rw [bounds_nat] at h
      obtain ⟨⟨l, h'⟩, hb, hk⟩ := Option.bind_eq_some_iff.1 h
      cases hk
      simp only [SV.R] at hx
      obtain ⟨ad, cap, rfl⟩ := hx
      obtain ⟨h1, h2, h3⟩ := bounds_run (P := P) (cap := cap) hb (Nat.zero_le _) hl hl0 hh hh0 true
      obtain rfl : h' = 0 := by omega
      obtain rfl : l = 0 := by omega
      refine ⟨.slice (if cap = 0 then some ad else some (ad.add 0)) 0 cap, ?_, ?_⟩
      · simp [Instr.sliceAt, Instr.slice, run_underlying ht, h3, sizeOf_run hi']
      · simp only [SV.R]
        split
        · exact ⟨_, _, rfl⟩
        · exact ⟨_, _, rfl⟩
    · rename_i k off len
      rw [bounds_nat] at h
      obtain ⟨⟨l, h'⟩, hb, hk⟩ := Option.bind_eq_some_iff.1 h
      cases hk
      simp only [SV.R] at hx
      obtain ⟨lk, hlk, hp⟩ := hx
      have hrun := fun c hc => bounds_run (P := P) (cap := c) hb hc hl hl0 hh hh0 true
      simp only [elemOk] at hel
      split at hel
      · rename_i e1 r1 xs1 hg
        obtain ⟨l', hl', hr⟩ := hm.obs k _ hg
        rw [hlk] at hl'; cases hl'
        cases lk with
        | row ad cap n sz' e' =>
          obtain ⟨_, hs, _⟩ := hr
          obtain ⟨u, hu, hr⟩ := piece_cut ht hi' hrun (ad := ad) (cap := cap) (n := n) (sz := sz') (off := off) hp (by simp at hel; omega)
          exact ⟨u, hu, by simp only [SV.R]; exact ⟨_, hlk, hr⟩⟩
        | _ => exact hr.elim
      · rename_i e1 r1 xs1 hg
        obtain ⟨l', hl', hr⟩ := hm.obs k _ hg
        rw [hlk] at hl'; cases hl'
        cases lk with
        | froz ad cap n sz' e' =>
          obtain ⟨_, hs, _⟩ := hr
          obtain ⟨u, hu, hr⟩ := piece_cut ht hi' hrun (ad := ad) (cap := cap) (n := n) (sz := sz') (off := off) hp (by simp at hel; omega)
          exact ⟨u, hu, by simp only [SV.R]; exact ⟨_, hlk, hr⟩⟩
        | _ => exact hr.elim
      · cases hel
    · cases h

theorem idxx_sound {P : Program} {w : World} {Z : Nat → Prop} {β : Loc} {m : Mem} (hm : MR w Z β m) {sz : Nat} {x i : SV} {v : SV} (h : idxx sz x i m some = some v) {t e : TypeId} {ti : TypeInfo} (ht : P.underlying t = some (.slice e)) (hi : P.info? e = some ti) (hsz : sz = ti.size)
    {vx vi : Value} (hx : x.R w (β.away Z) β vx) (hv : i.R w (β.away Z) β vi) :
    ∃ u, (Instr.indexAt t vx vi).run P w = .ok u w ∧ v.R w (β.away Z) β u := by
  unfold idxx at h
  split at h
  · rename_i k n
    simp only [SV.R] at hv
    subst hv
    split at h
    · cases h
    · rename_i hel
      split at h
      · rename_i e' r xs
        obtain ⟨h0, h⟩ := chk_some h
        obtain ⟨h1, h⟩ := chk_some h
        cases h
        simp at h0 h1
        simp only [SV.R, Prim.R] at hx
        obtain ⟨ad, cap, rfl, hcap, hx⟩ := hx
        obtain ⟨a, cs, ha, hA, hlt, hl, hc, hR⟩ := hx n.toNat (by omega)
        have hr : r.size = ti.size := by simp only [elemOk, beq_iff_eq] at hel; omega
        subst ha
        refine ⟨.pointer (some (a.add (n.toNat * ti.size))), ?_, ?_⟩
        · simp [Instr.indexAt, asIntOf, run_underlying ht, h0, h1, sizeOf_run hi]
        · simp only [SV.R]
          refine ⟨by omega, a.add (n.toNat * ti.size), cs, by rw [add_add, Nat.add_zero], by rw [add_block]; exact hA, by rw [add_block]; exact hlt, hl, fun j u hu => ?_, hR⟩
          rw [add_add, ← hr]
          exact hc j u hu
      · rename_i key off len
        obtain ⟨h0, h⟩ := chk_some h
        obtain ⟨h1, h⟩ := chk_some h
        cases h
        simp at h0 h1
        simp only [SV.R] at hx
        obtain ⟨lk, hlk, hp⟩ := hx
        have hgo : ∀ ad cap n' sz', pieceOf ad cap n' sz' off len vx → sz' = ti.size → (ad = none → n' = 0) → ∃ g, ad = some g ∧ off + n.toNat < n' ∧ (Instr.indexAt t vx (.int k n)).run P w = .ok (.pointer (some ⟨g, (off + n.toNat) * sz', none⟩)) w := by
          rintro ad cap n' sz' ⟨A', c, rfl, hlc, hoff, hcap, ha⟩ hs hne
          have := ha (.inl (by omega))
          subst this
          cases ad with
          | none =>
            have := hne rfl
            omega
          | some g =>
            refine ⟨g, rfl, by omega, ?_⟩
            simp [Instr.indexAt, asIntOf, run_underlying ht, h0, h1, sizeOf_run hi, add_mk, Nat.add_mul, hs]
        simp only [elemOk] at hel
        split at hel
        · rename_i e1 r1 xs1 hg
          obtain ⟨l', hl', hr⟩ := hm.obs key _ hg
          rw [hlk] at hl'; cases hl'
          cases lk with
          | row ad cap n' sz' e' =>
            obtain ⟨_, hs, _, hn, cells, ho, _⟩ := hr
            obtain ⟨g, rfl, hlt, hu⟩ := hgo ad cap n' sz' hp (by simp at hel; omega) (fun hn => by
              rcases ho.2 with ⟨_, h0⟩ | ⟨g, cap', cur, hv, _⟩
              · exact h0
              · simp [atG, hn] at hv)
            exact ⟨_, hu, by simp only [SV.R]; exact ⟨_, hlk, hlt, by simp⟩⟩
          | _ => exact hr.elim
        · rename_i e1 r1 xs1 hg
          obtain ⟨l', hl', hr⟩ := hm.obs key _ hg
          rw [hlk] at hl'; cases hl'
          cases lk with
          | froz ad cap n' sz' e' =>
            obtain ⟨_, hs, hn, hR⟩ := hr
            obtain ⟨g, rfl, hlt, hu⟩ := hgo ad cap n' sz' hp (by simp at hel; omega) (fun hn' => by
              simp only [Prim.R] at hR
              obtain ⟨ad', cap', hv, _, hx⟩ := hR
              by_cases h0' : 0 < xs1.length
              · obtain ⟨a, cs, ha, _⟩ := hx 0 h0'
                simp [atG, hn', ha] at hv
              · omega)
            exact ⟨_, hu, by simp only [SV.R]; exact ⟨_, hlk, hlt, by simp⟩⟩
          | _ => exact hr.elim
        · cases hel
      · cases h
  · cases h
end Go.Proofs.Ytgfanlafbjbkaaa.S2
