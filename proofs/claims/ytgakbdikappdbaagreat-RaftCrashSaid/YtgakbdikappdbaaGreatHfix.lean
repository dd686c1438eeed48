/- The program's functions come to their plain forms, by program. -/
import Derived.Test.YtgakbdikappdbaaGreatGfix
import Derived.Test.YtgakbdikappdbaaGreatHapp
set_option maxRecDepth 100000
set_option maxHeartbeats 0
set_option linter.unusedVariables false
set_option linter.unusedSimpArgs false
namespace Go.Proofs.YtgakbdikappdbaaGreat.S2
open Go
def rbr_law18_fixed : FuncId → CC := fun f => ⟨([32, 65, 87, 96, 97, 108] : List Nat).contains f, [], []⟩
def ran_law18_fixed : Nat → LAnn := fun n => ⟨cond (Nat.ble 100000 n) 0 n, List.range 150, [], [], List.range 150⟩
theorem r_law18_fixed : (inl [(86, C_slices_AppendSeq_uint64)] (List.range 132) (fnTab Tryz.prog ran_law18_fixed (List.range 132)) rbr_law18_fixed ⟨false, [], []⟩ 60 40).call 4 [] [] (fun v m => some (v, m)) = some (.bool true, []) := by kernel_rfl
noncomputable def C_law18_fixed : Con := ⟨args_law18_fixed, mem_law18_fixed, outs_law18_fixed, F_law18_fixed⟩
theorem ext_law18_fixed : ∀ p, p ∈ ([(86, C_slices_AppendSeq_uint64)] : List (Nat × Con)) → ConOK Tryz.prog p.1 p.2 := by
  intro p hp
  simp only [List.mem_cons, List.not_mem_nil, or_false] at hp
  subst hp
  · exact ok_slices_AppendSeq_uint64
theorem ok_law18_fixed : ConOK Tryz.prog 4 C_law18_fixed := by
  rintro ⟨⟩ ⟨⟩ r hr
  cases hr
  exact run_call mixT ext_law18_fixed r_law18_fixed
end Go.Proofs.YtgakbdikappdbaaGreat.S2
