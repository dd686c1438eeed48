/- Behind a sync, more records, and a crash, whatever it keeps, the log holds the same records, and some first ones of the others; opened again it is the same, and goes on: at every input that the statement lets in. -/
import Derived.Test.YtlfedmjjjbhnpaaRows
import Derived.Test.YtlfedmjjjbhnpaaRows
import Derived.Test.YtlfedmjjjbhnpaaHLWalKeeps
import Derived.Test.YtlfedmjjjbhnpaaPwkeeps
import Derived.Test.YtlfedmjjjbhnpaaPwfStrs
set_option maxRecDepth 100000
set_option linter.unusedVariables false
namespace Go.Proofs.Ytlfedmjjjbhnpaa.walKeeps
open Go.RowKit Go.ChangeShapes Go.Proofs.Ytlfedmjjjbhnpaa.S2
theorem own : ownKnob Try.prog.godebug = none := by kernel_rfl
theorem laidOut : laidOutB Try.prog = true := by kernel_rfl
theorem shape : skArgs Try.prog Try.f5.params.toList = some args_law10_WalKeeps := by kernel_rfl
theorem many : Try.f5.params.toList.length = 3 := by kernel_rfl
theorem told (H : Type) (ds : List (DataW H)) (h : ds.length = Try.f5.params.toList.length) : Rows.walKeepsSpec.fn H ds = { results := [.lit (.bool true)], args := ds } := by
  rw [many] at h
  match ds, h with
  | [d0, d1, d2], _ => rfl
theorem plain (x : args_law10_WalKeeps.T) (h : args_law10_WalKeeps.wf Try.prog x) : F_law10_WalKeeps x () = some (true, ()) := by obtain ⟨l, more, keep, _⟩ := x; obtain ⟨h1, h2, _⟩ := h; have h1 := strs_wf h1 (by kernel_rfl); have h2 := strs_wf h2 (by kernel_rfl); exact p_WalKeeps h1.1 h1.2 h2.1 h2.2
theorem wit (os : Os) (H : Type) (enc : TypeId × Value → H) : ∃ (w : World) (tape : Tape) (i : Input), w.os = os ∧ (w.forCall tape i).Shaped Try.checked.prog ∧ i.vars = [] ∧ Input.okWide Try.checked.prog (w.forCall tape i) .any w.heap.size 5 i ∧
    Rows.walKeepsSpec.pre6 enc Try.checked.prog Try.f5 Rows.walKeepsRow.domain false (w.forCall tape i).memory i.args ∧ ({} : Assume).holds Try.checked.prog (lone (Frame.enter Try.checked.prog 5 i.args .normal) [] (w.forCall tape i)) :=
  ChangeSpec.witness6 (os := os) (f := 5) (fn := Try.f5) (s := Rows.walKeepsSpec) (conds := Rows.walKeepsRow.domain) (apart := false) (enc := enc) (C := Try.checked) false ⟨#[], #[.slice none 0 0, .slice none 0 0, .slice none 0 0], []⟩ 12 (by kernel_rfl) (by kernel_rfl) (by kernel_rfl) (by kernel_rfl)
theorem called (W : World) (vs : List Value) (x : args_law10_WalKeeps.T) (hx : SV.RL W (fun _ => False) (fun _ => none) (args_law10_WalKeeps.svs x) vs) (hw : args_law10_WalKeeps.wf Try.checked.prog x) :
    Calls Try.checked.prog 5 vs.toArray W fun e W' => e = .returned (.bool true) ∧ Below W.heap.size W W' := law_calls fn_law10_WalKeeps ok_law10_WalKeeps hx (plain x hw)
theorem lifted (os : Os) (started : os.Started) (H : Type) (enc : TypeId × Value → H) :
    ReturnsInHanded {} Try.checked os 5 .any (Rows.walKeepsSpec.pre6 enc Try.prog Try.f5 Rows.walKeepsRow.domain false) (Rows.walKeepsSpec.post enc Try.prog Try.f5 false true false false) :=
  law_lifted (C := Try.checked) (l := args_law10_WalKeeps) (tb := 4) own started (by kernel_rfl) Try.func5
    (wit os H enc)
    rfl (told H) (by kernel_rfl) (by kernel_rfl) laidOut (by kernel_rfl) shape (by kernel_rfl)
    called
theorem over : Rows.walKeepsRow.holds Try.pinned (OpenSpec.ofChange Rows.walKeepsSpec) :=
  OpenClaim.holds_of_wide 5 Try.f5 rfl rfl rfl rfl rfl rfl rfl ⟨rfl, rfl, rfl, rfl, rfl⟩ rfl rfl rfl rfl rfl (by kernel_rfl) Try.func5 (by kernel_rfl)
    (of_decide_eq_true (by kernel_rfl)) (by unfold Func.isWrapper; first | (rw [if_pos (by decide +kernel)]; kernel_rfl) | (rw [if_neg (by decide +kernel)]; exact ⟨rfl, rfl⟩))
    (fun os started H enc _ => lifted os started H enc)
theorem proved : Rows.WalKeepsSaid := over
end Go.Proofs.Ytlfedmjjjbhnpaa.walKeeps
namespace Go.Proofs.Ytlfedmjjjbhnpaa
/-- The statement. -/
theorem walKeeps_holds : Rows.WalKeepsSaid := walKeeps.proved
#print axioms walKeeps_holds
end Go.Proofs.Ytlfedmjjjbhnpaa

