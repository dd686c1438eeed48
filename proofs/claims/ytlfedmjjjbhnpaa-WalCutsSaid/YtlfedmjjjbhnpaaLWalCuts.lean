/- Where records were cut and others written, and all is synced, the log holds just those up to the cut, and the others; where a crash comes ahead of it: up to the cut, and some first ones of the new ones, or some first ones of the old ones, up to the cut at least: at every input that the statement lets in. -/
import Derived.Test.YtlfedmjjjbhnpaaRows
import Derived.Test.YtlfedmjjjbhnpaaRows
import Derived.Test.YtlfedmjjjbhnpaaHLWalCuts
import Derived.Test.YtlfedmjjjbhnpaaPwcuts
import Derived.Test.YtlfedmjjjbhnpaaPwfStrs
set_option maxRecDepth 100000
set_option linter.unusedVariables false
namespace Go.Proofs.Ytlfedmjjjbhnpaa.walCuts
open Go.RowKit Go.ChangeShapes Go.Proofs.Ytlfedmjjjbhnpaa.S2
theorem own : ownKnob Try.prog.godebug = none := by kernel_rfl
theorem laidOut : laidOutB Try.prog = true := by kernel_rfl
theorem shape : skArgs Try.prog Try.f6.params.toList = some args_law10_WalCuts := by kernel_rfl
theorem many : Try.f6.params.toList.length = 3 := by kernel_rfl
theorem told (H : Type) (ds : List (DataW H)) (h : ds.length = Try.f6.params.toList.length) : Rows.walCutsSpec.fn H ds = { results := [.lit (.bool true)], args := ds } := by
  rw [many] at h
  match ds, h with
  | [d0, d1, d2], _ => rfl
theorem plain (x : args_law10_WalCuts.T) (h : args_law10_WalCuts.wf Try.prog x) : F_law10_WalCuts x () = some (true, ()) := by obtain ⟨⟨l, more, _⟩, x, keep, _⟩ := x; obtain ⟨⟨h1, h2, _⟩, h3, _⟩ := h; have h1 := strs_wf h1 (by kernel_rfl); have h2 := strs_wf h2 (by kernel_rfl); exact p_WalCuts h1.1 h1.2 h2.1 h2.2 (wf_u64 h3).1 (wf_u64 h3).2
theorem wit (os : Os) (H : Type) (enc : TypeId × Value → H) : ∃ (w : World) (tape : Tape) (i : Input), w.os = os ∧ (w.forCall tape i).Shaped Try.checked.prog ∧ i.vars = [] ∧ Input.okWide Try.checked.prog (w.forCall tape i) .any w.heap.size 6 i ∧
    Rows.walCutsSpec.pre6 enc Try.checked.prog Try.f6 Rows.walCutsRow.domain false (w.forCall tape i).memory i.args ∧ ({} : Assume).holds Try.checked.prog (lone (Frame.enter Try.checked.prog 6 i.args .normal) [] (w.forCall tape i)) :=
  ChangeSpec.witness6 (os := os) (f := 6) (fn := Try.f6) (s := Rows.walCutsSpec) (conds := Rows.walCutsRow.domain) (apart := false) (enc := enc) (C := Try.checked) false ⟨#[], #[.agg #[.slice none 0 0, .slice none 0 0], .int .u64 0, .slice none 0 0], []⟩ 12 (by kernel_rfl) (by kernel_rfl) (by kernel_rfl) (by kernel_rfl)
theorem called (W : World) (vs : List Value) (x : args_law10_WalCuts.T) (hx : SV.RL W (fun _ => False) (fun _ => none) (args_law10_WalCuts.svs x) vs) (hw : args_law10_WalCuts.wf Try.checked.prog x) :
    Calls Try.checked.prog 6 vs.toArray W fun e W' => e = .returned (.bool true) ∧ Below W.heap.size W W' := law_calls fn_law10_WalCuts ok_law10_WalCuts hx (plain x hw)
theorem lifted (os : Os) (started : os.Started) (H : Type) (enc : TypeId × Value → H) :
    ReturnsInHanded {} Try.checked os 6 .any (Rows.walCutsSpec.pre6 enc Try.prog Try.f6 Rows.walCutsRow.domain false) (Rows.walCutsSpec.post enc Try.prog Try.f6 false true false false) :=
  law_lifted (C := Try.checked) (l := args_law10_WalCuts) (tb := 4) own started (by kernel_rfl) Try.func6
    (wit os H enc)
    rfl (told H) (by kernel_rfl) (by kernel_rfl) laidOut (by kernel_rfl) shape (by kernel_rfl)
    called
theorem over : Rows.walCutsRow.holds Try.pinned (OpenSpec.ofChange Rows.walCutsSpec) :=
  OpenClaim.holds_of_wide 6 Try.f6 rfl rfl rfl rfl rfl rfl rfl ⟨rfl, rfl, rfl, rfl, rfl⟩ rfl rfl rfl rfl rfl (by kernel_rfl) Try.func6 (by kernel_rfl)
    (of_decide_eq_true (by kernel_rfl)) (by unfold Func.isWrapper; first | (rw [if_pos (by decide +kernel)]; kernel_rfl) | (rw [if_neg (by decide +kernel)]; exact ⟨rfl, rfl⟩))
    (fun os started H enc _ => lifted os started H enc)
theorem proved : Rows.WalCutsSaid := over
end Go.Proofs.Ytlfedmjjjbhnpaa.walCuts
namespace Go.Proofs.Ytlfedmjjjbhnpaa
/-- The statement. -/
theorem walCuts_holds : Rows.WalCutsSaid := walCuts.proved
#print axioms walCuts_holds
end Go.Proofs.Ytlfedmjjjbhnpaa

