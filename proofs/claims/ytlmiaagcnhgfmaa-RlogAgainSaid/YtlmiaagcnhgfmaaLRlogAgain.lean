/- What was sent stands in the log, behind what stood there; sent again, or its first ones alone, it changes nothing: for every input the Go function RlogAgain returns true and leaves its arguments as they were. -/
import Derived.Test.YtlmiaagcnhgfmaaRows
import Derived.Test.YtlmiaagcnhgfmaaS2za
import Derived.Test.YtlmiaagcnhgfmaaH2
import Derived.Test.YtlmiaagcnhgfmaaP6
set_option maxRecDepth 100000
set_option linter.unusedVariables false
namespace Go.Proofs.Ytlmiaagcnhgfmaa.rlogAgain
open Go.RowKit Go.ChangeShapes Go.Proofs.Ytlmiaagcnhgfmaa.S2
theorem own : ownKnob Try.prog.godebug = none := by kernel_rfl
theorem laidOut : laidOutB Try.prog = true := by kernel_rfl
theorem shape : skArgs Try.prog Try.f4.params.toList = some args_law15_RlogAgain := by kernel_rfl
theorem many : Try.f4.params.toList.length = 3 := by kernel_rfl
theorem told (H : Type) (ds : List (DataW H)) (h : ds.length = Try.f4.params.toList.length) : Rows.rlogAgainSpec.fn H ds = { results := [.lit (.bool true)], args := ds } := by
  rw [many] at h
  match ds, h with
  | [d0, d1, d2], _ => rfl
theorem bytesE : Try.prog.bytesOf 37 = 32 := by kernel_rfl
theorem few {n : Nat} (h : n * 32 ≤ 140737488351232) : n ≤ 140737488355328 := by omega
theorem plain (x : A_law15_RlogAgain) (h : args_law15_RlogAgain.wf Try.prog x) : F_law15_RlogAgain x () = some (true, ()) := by
  obtain ⟨⟨hb, ht, hx, _⟩, ⟨hp, hq, he, _⟩, hm, _⟩ := h
  exact RlogAgain_plain (wf_u64 hb) (wf_u64 hp) (few (wf_slc hx bytesE).1) (few (wf_slc he bytesE).1) (wf_i64 hm)

theorem lifted (os : Os) (started : os.Started) (H : Type) (enc : TypeId × Value → H) :
    ReturnsInHanded {} Try.checked os 4 .any (Rows.rlogAgainSpec.pre6 enc Try.prog Try.f4 Rows.rlogAgainRow.domain false) (Rows.rlogAgainSpec.post enc Try.prog Try.f4 false true false false) :=
  law_lifted (C := Try.checked) (l := args_law15_RlogAgain) (tb := 4) own started (by kernel_rfl) Try.func4
    (ChangeSpec.witness6 (enc := enc) (C := Try.checked) false ⟨#[], #[.agg #[.int .u64 0, .int .u64 0, .slice none 0 0], .agg #[.int .u64 0, .int .u64 0, .slice none 0 0], .int .i64 0], []⟩ 12 (by kernel_rfl) (by kernel_rfl) (by kernel_rfl) (by kernel_rfl))
    rfl (told H) (by kernel_rfl) (by kernel_rfl) laidOut (by kernel_rfl) shape (by kernel_rfl)
    fun W vs x hx hw => law_calls fn_law15_RlogAgain ok_law15_RlogAgain hx (plain x hw)
theorem over : Rows.rlogAgainRow.holds Try.pinned (OpenSpec.ofChange Rows.rlogAgainSpec) :=
  OpenClaim.holds_of_wide 4 Try.f4 rfl rfl rfl rfl rfl rfl rfl ⟨rfl, rfl, rfl, rfl, rfl⟩ rfl rfl rfl rfl rfl (by kernel_rfl) Try.func4 (by kernel_rfl)
    (of_decide_eq_true (by kernel_rfl)) (by unfold Func.isWrapper; first | (rw [if_pos (by decide +kernel)]; kernel_rfl) | (rw [if_neg (by decide +kernel)]; exact ⟨rfl, rfl⟩))
    (fun os started H enc _ => lifted os started H enc)
theorem proved : Rows.RlogAgainSaid := over
end Go.Proofs.Ytlmiaagcnhgfmaa.rlogAgain
namespace Go.Proofs.Ytlmiaagcnhgfmaa
/-- The statement. -/
theorem rlogAgain_holds : Rows.RlogAgainSaid := rlogAgain.proved
#print axioms rlogAgain_holds
end Go.Proofs.Ytlmiaagcnhgfmaa

