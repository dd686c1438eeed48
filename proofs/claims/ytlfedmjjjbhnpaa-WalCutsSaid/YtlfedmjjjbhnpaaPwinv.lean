/-
  A log of 8 sectors of 48 bytes: what it keeps, whatever is done (under way).
-/
import Derived.Test.YtlfedmjjjbhnpaaPwopen
set_option linter.unusedVariables false
set_option linter.unusedSimpArgs false
namespace Go.Proofs.Ytlfedmjjjbhnpaa.S2
open Go

/-- What a log of 8 sectors of 48 bytes keeps, behind c appends. -/
structure WInv (c : Nat) (base mark next : Int) (held : List W2) (S : List ByteArray) (P : List W2) : Prop where
  l : LInv 8 base held
  d : DInv 48 S P
  s8 : S.length = 8
  p : P.length ≤ c
  n1 : 1 ≤ next
  nc : next ≤ c + 1
  m0 : 0 ≤ mark
  mc : mark ≤ c
  hm : ∀ p ∈ held, 0 ≤ p.1 ∧ p.1 ≤ c
  c1 : c ≤ 1000

variable {c : Nat} {base mark next : Int} {held : List W2} {S : List ByteArray} {P : List W2}

theorem WInv.tail (h : WInv c base mark next held S P) : 0 ≤ tailI mark held ∧ tailI mark held ≤ c := by
  unfold tailI
  split
  · rename_i p hp
    exact h.hm p (List.mem_of_getLast? hp)
  · exact ⟨h.m0, h.mc⟩

theorem WInv.may (h : WInv c base mark next held S P) {t : ByteArray} (ht : t.size ≤ 10) : mayA 48 8 next (lastI base held + 1) (tailI mark held) held t ↔ held.length ≠ 8 := by
  have hl := h.l.last; have hc := h.c1; have hn := h.nc; have ht' := h.tail; have h1 := h.n1
  have s1 := putB_size (n := lastI base held + 1) (by omega) (by omega)
  have s2 := putB_size (n := tailI mark held) (by omega) (by omega)
  unfold mayA okF
  refine ⟨fun ⟨_, h2, _⟩ => by omega, fun h2 => ⟨⟨by decide, by decide, by omega, ?_⟩, by omega, by omega⟩⟩
  unfold recB
  rw [ByteArray.size_append, ByteArray.size_append]
  omega

theorem WInv.append (h : WInv c base mark next held S P) {t : ByteArray} (hc : c + 1 ≤ 1000) (at_ : Int) (f : ByteArray) (h8 : held.length ≠ 8) : WInv (c + 1) base mark (next + 1) (held ++ [(next, t)]) S (wrS 48 S P at_ f) where
  l := ⟨h.l.many2, h.l.many128, h.l.base0, h.l.base62, by have := h.l.len; simp; omega⟩
  d := wr_DInv h.d (by have := h.p; have := h.c1; omega)
  s8 := h.s8
  p := by have := h.p; have := wr_len (size := 48) (at_ := at_) (safe := S) (pend := P) (t := f); omega
  n1 := by have := h.n1; omega
  nc := by have := h.nc; omega
  m0 := h.m0
  mc := by have := h.mc; omega
  hm := fun p hp => by
    rcases List.mem_append.1 hp with hp | hp
    · have := h.hm p hp; omega
    · simp at hp
      subst hp
      have := h.n1; have := h.nc
      simp; omega
  c1 := hc

theorem WInv.drop (h : WInv c base mark next held S P) {k : Nat} (hk : k ≤ held.length) (hb : base + k ≤ 9223372036854775808) : WInv c (base + k) (tailI mark (held.take k)) next (held.drop k) S P where
  l := ⟨h.l.many2, h.l.many128, by have := h.l.base0; omega, hb, by have := h.l.len; simp; omega⟩
  d := h.d
  s8 := h.s8
  p := h.p
  n1 := h.n1
  nc := h.nc
  m0 := by
    unfold tailI
    split
    · rename_i p hp; exact (h.hm p (List.mem_of_mem_take (List.mem_of_getLast? hp))).1
    · exact h.m0
  mc := by
    unfold tailI
    split
    · rename_i p hp; exact (h.hm p (List.mem_of_mem_take (List.mem_of_getLast? hp))).2
    · exact h.mc
  hm := fun p hp => h.hm p (List.mem_of_mem_drop hp)
  c1 := h.c1
end Go.Proofs.Ytlfedmjjjbhnpaa.S2
