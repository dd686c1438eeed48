/-
  law10's fixed calls.
-/
import Derived.Test.YtlfedmjjjbhnpaaPwapp
set_option linter.unusedVariables false
set_option linter.unusedSimpArgs false
namespace Go.Proofs.Ytlfedmjjjbhnpaa.S2
open Go

theorem rec_small {n ahead : Int} {t : ByteArray} (h0 : 0 ≤ n) (h1 : n < 128) (h2 : 0 ≤ ahead) (h3 : ahead < 128) : (recB n ahead t).size = t.size + 2 := by
  have e1 : (putB n).size = 1 := by
    rw [← bs_len, bs_put, putL_small (by omega)]; rfl
  have e2 : (putB ahead).size = 1 := by
    rw [← bs_len, bs_put, putL_small (by omega)]; rfl
  unfold recB
  rw [ByteArray.size_append, ByteArray.size_append, e1, e2]
  omega

/-- The empty disk of 2 sectors of 32 bytes. -/
def zero2 : List ByteArray := List.replicate (2 : Int).toNat (zerosB (32 : Int).toNat)

theorem unf_zero32 : unfS (zerosB 32) = (0, ByteArray.empty, false) := by
  unfold unfS
  rw [if_neg]
  intro h
  unfold okU at h
  revert h
  decide

theorem read_zero2 (i : Int) : (unfS (readS zero2 [] i).1) = (0, ByteArray.empty, false) := by
  have : (readS zero2 [] i).1 = zerosB 32 ∨ (readS zero2 [] i).1 = ByteArray.empty := by
    show (safeS zero2 i).1 = _ ∨ (safeS zero2 i).1 = _
    unfold safeS
    split
    · rename_i h
      left
      have hm : zero2.getD i.toNat ByteArray.empty ∈ zero2 := getD_mem (by omega)
      exact (List.mem_replicate.1 hm).2
    · right; rfl
  rcases this with h | h <;> rw [h]
  · exact unf_zero32
  · exact unf_empty

theorem great_zero2 : ∀ (d k : Nat), greatS 0 zero2 [] d k 0 = 0
  | 0, k => rfl
  | d + 1, k => by
    unfold greatS
    rw [read_zero2]
    exact great_zero2 d (k + 1)

theorem stand_zero2 (base mark : Int) : ∀ (d : Nat), standL 0 2 base mark zero2 [] d [] = []
  | 0 => rfl
  | d + 1 => by
    unfold standL standS
    simp only [read_zero2]
    rfl

theorem open_zero2 : F_wal_Open (0, 2, 0, 0, ()) ((32, ()), zero2, [], ()) = some (.inr ((), ((32, ()), zero2, [], (0, 2, 0, 0, 1, ()), [], ()))) := by
  rw [e_wOpen (by simp) (by decide) (by decide) (by decide) (by rw [great_zero2]; decide), if_pos (by decide), great_zero2, stand_zero2]
  rfl

theorem app2 {base mark next : Int} {held : List W2} {P : List W2} {t : ByteArray} (h : LInv 2 base held) (hd : DInv 32 zero2 P) (ht : t.size = 1) (hn : 0 < next ∧ next < 100) (hm : 0 ≤ tailI mark held ∧ tailI mark held < 100) (hb : lastI base held < 100) (h2 : held.length < 2) (hp : P.length < 1000) :
    ∃ P', DInv 32 zero2 P' ∧ P'.length ≤ P.length + 1 ∧ F_wal_Log_Append (t, ()) ((0, 2, base, mark, next, ()), (32, ()), held, zero2, P, ()) = some (true, ((0, 2, base, mark, next + 1, ()), (32, ()), (), zero2, (), held ++ [(next, t)], P', ())) := by
  have e := e_Append (fr := 0) (many := 2) (size := 32) (mark := mark) (next := next) (t := t) h hd (by omega) (by decide) (by decide) ⟨by omega, by omega⟩ ⟨by omega, by omega⟩
  have hl := h.last
  rw [if_pos ⟨⟨by decide, by decide, by omega, by rw [rec_small (by omega) (by omega) hm.1 (by omega)]; omega⟩, by omega, by omega⟩] at e
  exact ⟨_, wr_DInv hd (by omega), wr_len, e⟩

theorem e_fixed10 : F_law10_fixed () () = some (true, ()) := by
  rw [Fe_law10_fixed]
  unfold tree_law10_fixed
  rw [e_New (show okN 2 32 by decide)]
  simp only [Option.bind_some, Sum.elim_inr]
  rw [show (List.replicate (2 : Int).toNat (zerosB (32 : Int).toNat)) = zero2 from rfl, open_zero2]
  simp only [Option.bind_some, Sum.elim_inr]
  have hd0 : DInv 32 zero2 [] := new_DInv (n := 2) (size := 32) ⟨by decide, by decide, by decide, by decide⟩
  obtain ⟨P1, d1, p1, e1⟩ := app2 (base := 0) (mark := 0) (next := 1) (held := []) (t := ByteArray.mk #[120]) ⟨by decide, by decide, by decide, by decide, by decide⟩ hd0 rfl (by decide) (by decide) (by decide) (by decide) (by decide)
  have p1' : P1.length ≤ 1 := p1
  simp only [e1, Option.bind_some]
  obtain ⟨P2, d2, p2, e2⟩ := app2 (base := 0) (mark := 0) (next := 1 + 1) (held := [] ++ [(1, ByteArray.mk #[120])]) (t := ByteArray.mk #[121]) ⟨by decide, by decide, by decide, by decide, by decide⟩ d1 rfl (by decide) (by decide) (by decide) (by decide) (by omega)
  simp only [e2, Option.bind_some]
  have i3 : LInv 2 0 ([] ++ [(1, ByteArray.mk #[120])] ++ [(1 + 1, ByteArray.mk #[121])] : List W2) := ⟨by decide, by decide, by decide, by decide, by decide⟩
  have e3 := e_Append (fr := 0) (many := 2) (size := 32) (mark := 0) (next := 1 + 1 + 1) (t := ByteArray.mk #[122]) i3 d2 (by decide) (by decide) (by decide) (by decide) (by decide)
  rw [if_neg (fun h => h.2.1 rfl)] at e3
  simp only [e3, Option.bind_some]
  have e4 := e_Drop (fr := 0) (mark := 0) (next := 1 + 1 + 1) (size := 32) (S := zero2) (P := P2) i3 (n := 1) (by decide) (by decide)
  rw [if_neg (by decide)] at e4
  simp only [e4, Option.bind_some]
  have hh : ([] ++ [(1, ByteArray.mk #[120])] ++ [(1 + 1, ByteArray.mk #[121])] : List W2).drop ((1 : Int) - 0).toNat = [(2, ByteArray.mk #[121])] := rfl
  have ht : tailI 0 (([] ++ [(1, ByteArray.mk #[120])] ++ [(1 + 1, ByteArray.mk #[121])] : List W2).take ((1 : Int) - 0).toNat) = 1 := rfl
  rw [hh, ht]
  obtain ⟨P5, d5, p5, e5⟩ := app2 (base := 1) (mark := 1) (next := 1 + 1 + 1) (held := [(2, ByteArray.mk #[121])]) (t := ByteArray.mk #[122]) ⟨by decide, by decide, by decide, by decide, by decide⟩ d2 rfl (by decide) (by decide) (by decide) (by decide) (by omega)
  simp only [e5, Option.bind_some]
  have i6 : LInv 2 1 ([(2, ByteArray.mk #[121])] ++ [(1 + 1 + 1, ByteArray.mk #[122])] : List W2) := ⟨by decide, by decide, by decide, by decide, by decide⟩
  simp only [e_logText i6 (n := 3) (by decide) (by decide), e_logText i6 (n := 1) (by decide) (by decide), e_Base, e_Mark, e_Last i6, Option.bind_some]
  have t3 : textI 1 ([(2, ByteArray.mk #[121])] ++ [(1 + 1 + 1, ByteArray.mk #[122])] : List W2) 3 = (ByteArray.mk #[122], true) := rfl
  have t1 : textI 1 ([(2, ByteArray.mk #[121])] ++ [(1 + 1 + 1, ByteArray.mk #[122])] : List W2) 1 = (ByteArray.empty, false) := rfl
  rw [t3, t1]
  simp [lastI]
end Go.Proofs.Ytlfedmjjjbhnpaa.S2
