/- What comes of any log by any entries that are sent is as the document says: for every input the Go function RlogMerges returns true and leaves its arguments as they were. -/
import Derived.Test.YtlmiaagcnhgfmaaRows
import Derived.Test.YtlmiaagcnhgfmaaS2za
import Derived.Test.YtlmiaagcnhgfmaaH2
import Derived.Test.YtlmiaagcnhgfmaaP3
set_option maxRecDepth 100000
set_option linter.unusedVariables false
namespace Go.Proofs.Ytlmiaagcnhgfmaa.rlogMerges
open Go.RowKit Go.ChangeShapes Go.Proofs.Ytlmiaagcnhgfmaa.S2
theorem own : ownKnob Try.prog.godebug = none := by kernel_rfl
theorem laidOut : laidOutB Try.prog = true := by kernel_rfl
theorem shape : skArgs Try.prog Try.f3.params.toList = some args_law15_RlogMerges := by kernel_rfl
theorem many : Try.f3.params.toList.length = 2 := by kernel_rfl
theorem told (H : Type) (ds : List (DataW H)) (h : ds.length = Try.f3.params.toList.length) : Rows.rlogMergesSpec.fn H ds = { results := [.lit (.bool true)], args := ds } := by
  rw [many] at h
  match ds, h with
  | [d0, d1], _ => rfl
theorem bytesE : Try.prog.bytesOf 37 = 32 := by kernel_rfl
theorem few {n : Nat} (h : n * 32 ≤ 140737488351232) : n ≤ 140737488355328 := by omega
theorem plain (x : A_law15_RlogMerges) (h : args_law15_RlogMerges.wf Try.prog x) : F_law15_RlogMerges x () = some (true, ()) := by
  obtain ⟨⟨hb, ht, hx, _⟩, ⟨hp, hq, he, _⟩, _⟩ := h
  exact RlogMerges_plain (wf_u64 hb) (wf_u64 hp) (few (wf_slc hx bytesE).1) (few (wf_slc he bytesE).1)

theorem lifted (os : Os) (started : os.Started) (H : Type) (enc : TypeId × Value → H) :
    ReturnsInHanded {} Try.checked os 3 .any (Rows.rlogMergesSpec.pre6 enc Try.prog Try.f3 Rows.rlogMergesRow.domain false) (Rows.rlogMergesSpec.post enc Try.prog Try.f3 false true false false) :=
  law_lifted (C := Try.checked) (l := args_law15_RlogMerges) (tb := 4) own started (by kernel_rfl) Try.func3
    (ChangeSpec.witness6 (enc := enc) (C := Try.checked) false ⟨#[], #[.agg #[.int .u64 0, .int .u64 0, .slice none 0 0], .agg #[.int .u64 0, .int .u64 0, .slice none 0 0]], []⟩ 12 (by kernel_rfl) (by kernel_rfl) (by kernel_rfl) (by kernel_rfl))
    rfl (told H) (by kernel_rfl) (by kernel_rfl) laidOut (by kernel_rfl) shape (by kernel_rfl)
    fun W vs x hx hw => law_calls fn_law15_RlogMerges ok_law15_RlogMerges hx (plain x hw)
theorem over : Rows.rlogMergesRow.holds Try.pinned (OpenSpec.ofChange Rows.rlogMergesSpec) :=
  OpenClaim.holds_of_wide 3 Try.f3 rfl rfl rfl rfl rfl rfl rfl ⟨rfl, rfl, rfl, rfl, rfl⟩ rfl rfl rfl rfl rfl (by kernel_rfl) Try.func3 (by kernel_rfl)
    (of_decide_eq_true (by kernel_rfl)) (by unfold Func.isWrapper; first | (rw [if_pos (by decide +kernel)]; kernel_rfl) | (rw [if_neg (by decide +kernel)]; exact ⟨rfl, rfl⟩))
    (fun os started H enc _ => lifted os started H enc)
theorem proved : Rows.RlogMergesSaid := over
end Go.Proofs.Ytlmiaagcnhgfmaa.rlogMerges
namespace Go.Proofs.Ytlmiaagcnhgfmaa
/-- The statement. -/
theorem rlogMerges_holds : Rows.RlogMergesSaid := rlogMerges.proved
#print axioms rlogMerges_holds
end Go.Proofs.Ytlmiaagcnhgfmaa

