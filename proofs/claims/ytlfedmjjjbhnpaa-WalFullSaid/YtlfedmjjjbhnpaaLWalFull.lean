/- A log that holds as many records as it has sectors takes no more, till the first ones are dropped, and then just as many more: at every input that the statement lets in. -/
import Derived.Test.YtlfedmjjjbhnpaaRows
import Derived.Test.YtlfedmjjjbhnpaaRows
import Derived.Test.YtlfedmjjjbhnpaaHLWalFull
import Derived.Test.YtlfedmjjjbhnpaaPwfull
import Derived.Test.YtlfedmjjjbhnpaaPwfStrs
set_option maxRecDepth 100000
set_option linter.unusedVariables false
namespace Go.Proofs.Ytlfedmjjjbhnpaa.walFull
open Go.RowKit Go.ChangeShapes Go.Proofs.Ytlfedmjjjbhnpaa.S2
theorem own : ownKnob Try.prog.godebug = none := by kernel_rfl
theorem laidOut : laidOutB Try.prog = true := by kernel_rfl
theorem shape : skArgs Try.prog Try.f4.params.toList = some args_law10_WalFull := by kernel_rfl
theorem many : Try.f4.params.toList.length = 2 := by kernel_rfl
theorem told (H : Type) (ds : List (DataW H)) (h : ds.length = Try.f4.params.toList.length) : Rows.walFullSpec.fn H ds = { results := [.lit (.bool true)], args := ds } := by
  rw [many] at h
  match ds, h with
  | [d0, d1], _ => rfl
theorem plain (x : args_law10_WalFull.T) (h : args_law10_WalFull.wf Try.prog x) : F_law10_WalFull x () = some (true, ()) := by obtain ⟨l, x, _⟩ := x; obtain ⟨h1, h2, _⟩ := h; have h1 := strs_wf h1 (by kernel_rfl); exact p_WalFull h1.1 h1.2 (wf_u64 h2).1 (wf_u64 h2).2
theorem wit (os : Os) (H : Type) (enc : TypeId × Value → H) : ∃ (w : World) (tape : Tape) (i : Input), w.os = os ∧ (w.forCall tape i).Shaped Try.checked.prog ∧ i.vars = [] ∧ Input.okWide Try.checked.prog (w.forCall tape i) .any w.heap.size 4 i ∧
    Rows.walFullSpec.pre6 enc Try.checked.prog Try.f4 Rows.walFullRow.domain false (w.forCall tape i).memory i.args ∧ ({} : Assume).holds Try.checked.prog (lone (Frame.enter Try.checked.prog 4 i.args .normal) [] (w.forCall tape i)) :=
  ChangeSpec.witness6 (os := os) (f := 4) (fn := Try.f4) (s := Rows.walFullSpec) (conds := Rows.walFullRow.domain) (apart := false) (enc := enc) (C := Try.checked) false ⟨#[], #[.slice none 0 0, .int .u64 0], []⟩ 12 (by kernel_rfl) (by kernel_rfl) (by kernel_rfl) (by kernel_rfl)
theorem called (W : World) (vs : List Value) (x : args_law10_WalFull.T) (hx : SV.RL W (fun _ => False) (fun _ => none) (args_law10_WalFull.svs x) vs) (hw : args_law10_WalFull.wf Try.checked.prog x) :
    Calls Try.checked.prog 4 vs.toArray W fun e W' => e = .returned (.bool true) ∧ Below W.heap.size W W' := law_calls fn_law10_WalFull ok_law10_WalFull hx (plain x hw)
theorem lifted (os : Os) (started : os.Started) (H : Type) (enc : TypeId × Value → H) :
    ReturnsInHanded {} Try.checked os 4 .any (Rows.walFullSpec.pre6 enc Try.prog Try.f4 Rows.walFullRow.domain false) (Rows.walFullSpec.post enc Try.prog Try.f4 false true false false) :=
  law_lifted (C := Try.checked) (l := args_law10_WalFull) (tb := 4) own started (by kernel_rfl) Try.func4
    (wit os H enc)
    rfl (told H) (by kernel_rfl) (by kernel_rfl) laidOut (by kernel_rfl) shape (by kernel_rfl)
    called
theorem over : Rows.walFullRow.holds Try.pinned (OpenSpec.ofChange Rows.walFullSpec) :=
  OpenClaim.holds_of_wide 4 Try.f4 rfl rfl rfl rfl rfl rfl rfl ⟨rfl, rfl, rfl, rfl, rfl⟩ rfl rfl rfl rfl rfl (by kernel_rfl) Try.func4 (by kernel_rfl)
    (of_decide_eq_true (by kernel_rfl)) (by unfold Func.isWrapper; first | (rw [if_pos (by decide +kernel)]; kernel_rfl) | (rw [if_neg (by decide +kernel)]; exact ⟨rfl, rfl⟩))
    (fun os started H enc _ => lifted os started H enc)
theorem proved : Rows.WalFullSaid := over
end Go.Proofs.Ytlfedmjjjbhnpaa.walFull
namespace Go.Proofs.Ytlfedmjjjbhnpaa
/-- The statement. -/
theorem walFull_holds : Rows.WalFullSaid := walFull.proved
#print axioms walFull_holds
end Go.Proofs.Ytlfedmjjjbhnpaa

