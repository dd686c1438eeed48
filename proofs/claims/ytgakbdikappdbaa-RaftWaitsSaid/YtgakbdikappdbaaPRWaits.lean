/- As long as a node waits its ticks send nothing, in plain words. -/
import Derived.Test.YtgakbdikappdbaaPraft1
import Derived.Test.YtgakbdikappdbaaGLRaftWaits
set_option linter.unusedVariables false
namespace Go.Proofs.Ytgakbdikappdbaa.S2
open Go
theorem RaftWaits_plain (x : Nd) (x15 : Int) : F_law18_RaftWaits (x, x15, ()) () = some (true, ()) := by
  obtain ⟨x1, x2, x3, x4, x5, x6, x7, x8, x9, x10, x11, x12, x13, x14, ⟨⟩⟩ := x
  rw [Fe_law18_RaftWaits]
  unfold tree_law18_RaftWaits
  refine bindS e_fixed18 ?_
  obtain ⟨b, hb, hm⟩ := e_May18 x1 x2 x3 x4 x5 x6 x7 x8 x9 x10 x11 x12 x13 x14
  refine bindS hb ?_
  cases b with
  | false =>
    dsimp only
    rw [c_t (b := !false) rfl]
    exact bindS e_fixed18 rfl
  | true =>
    obtain ⟨h2, h7, h12, h13⟩ := hm rfl
    dsimp only
    rw [c_f (b := !true) rfl]
    by_cases hw : x14 ≤ 1
    · rw [cd_t hw]
      exact bindS e_fixed18 rfl
    · rw [cd_f hw]
      refine bindS (e_Tick x1 x2 x3 x4 x5 x6 x7 x8 x9 x10 x11 x12 x13 x14 x15 (by omega) h2 h7 h12 h13) ?_
      refine bindS (e_Copy18 x1 x2 x3 x4 x5 x6 x7 x8 x9 x10 x11 x12 x13 x14 h2 h7 h12 h13) ?_
      dsimp only
      rw [c_t (by simp)]
      refine bindS (e_Is18_refl x1 x2 x3 x4 x5 x6 x7 x8 x9 x10 x11 x12 x13 _ (by omega) (by omega) (by omega) (by omega)) ?_
      rfl
end Go.Proofs.Ytgakbdikappdbaa.S2
