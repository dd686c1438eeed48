/- Of two logs the one is newer, or the other one, or both, where they end alike; a log with one entry more, of a term that is not lower, is newer: for every input the Go function RlogOrders returns true and leaves its arguments as they were. -/
import Derived.Test.YtlmiaagcnhgfmaaRows
import Derived.Test.YtlmiaagcnhgfmaaS2za
import Derived.Test.YtlmiaagcnhgfmaaH2
import Derived.Test.YtlmiaagcnhgfmaaP5
set_option maxRecDepth 100000
set_option linter.unusedVariables false
namespace Go.Proofs.Ytlmiaagcnhgfmaa.rlogOrders
open Go.RowKit Go.ChangeShapes Go.Proofs.Ytlmiaagcnhgfmaa.S2
theorem own : ownKnob Try.prog.godebug = none := by kernel_rfl
theorem laidOut : laidOutB Try.prog = true := by kernel_rfl
theorem shape : skArgs Try.prog Try.f5.params.toList = some args_law15_RlogOrders := by kernel_rfl
theorem many : Try.f5.params.toList.length = 3 := by kernel_rfl
theorem told (H : Type) (ds : List (DataW H)) (h : ds.length = Try.f5.params.toList.length) : Rows.rlogOrdersSpec.fn H ds = { results := [.lit (.bool true)], args := ds } := by
  rw [many] at h
  match ds, h with
  | [d0, d1, d2], _ => rfl
theorem plain (x : A_law15_RlogOrders) (h : args_law15_RlogOrders.wf Try.prog x) : F_law15_RlogOrders x () = some (true, ()) := by
  obtain ⟨⟨hb, ht, hx, _⟩, ⟨hc, hs, hy, _⟩, _, _⟩ := h
  exact RlogOrders_plain (wf_u64 hb) (wf_u64 hc)

theorem lifted (os : Os) (started : os.Started) (H : Type) (enc : TypeId × Value → H) :
    ReturnsInHanded {} Try.checked os 5 .any (Rows.rlogOrdersSpec.pre6 enc Try.prog Try.f5 Rows.rlogOrdersRow.domain false) (Rows.rlogOrdersSpec.post enc Try.prog Try.f5 false true false false) :=
  law_lifted (C := Try.checked) (l := args_law15_RlogOrders) (tb := 4) own started (by kernel_rfl) Try.func5
    (ChangeSpec.witness6 (enc := enc) (C := Try.checked) false ⟨#[], #[.agg #[.int .u64 0, .int .u64 0, .slice none 0 0], .agg #[.int .u64 0, .int .u64 0, .slice none 0 0], .agg #[.int .u64 0, .int .i64 0, .string ByteArray.empty]], []⟩ 12 (by kernel_rfl) (by kernel_rfl) (by kernel_rfl) (by kernel_rfl))
    rfl (told H) (by kernel_rfl) (by kernel_rfl) laidOut (by kernel_rfl) shape (by kernel_rfl)
    fun W vs x hx hw => law_calls fn_law15_RlogOrders ok_law15_RlogOrders hx (plain x hw)
theorem over : Rows.rlogOrdersRow.holds Try.pinned (OpenSpec.ofChange Rows.rlogOrdersSpec) :=
  OpenClaim.holds_of_wide 5 Try.f5 rfl rfl rfl rfl rfl rfl rfl ⟨rfl, rfl, rfl, rfl, rfl⟩ rfl rfl rfl rfl rfl (by kernel_rfl) Try.func5 (by kernel_rfl)
    (of_decide_eq_true (by kernel_rfl)) (by unfold Func.isWrapper; first | (rw [if_pos (by decide +kernel)]; kernel_rfl) | (rw [if_neg (by decide +kernel)]; exact ⟨rfl, rfl⟩))
    (fun os started H enc _ => lifted os started H enc)
theorem proved : Rows.RlogOrdersSaid := over
end Go.Proofs.Ytlmiaagcnhgfmaa.rlogOrders
namespace Go.Proofs.Ytlmiaagcnhgfmaa
/-- The statement. -/
theorem rlogOrders_holds : Rows.RlogOrdersSaid := rlogOrders.proved
#print axioms rlogOrders_holds
end Go.Proofs.Ytlmiaagcnhgfmaa

