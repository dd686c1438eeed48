/- A store that is opened again on its disk, also behind a crash between two of its acts, trusts what it trusted. -/
import Derived.Test.YtlfedmjjjbhnpaaRows
import Derived.Test.YtlfedmjjjbhnpaaHLStoreAgain
import Derived.Test.YtlfedmjjjbhnpaaPStores
import Derived.Test.YtlfedmjjjbhnpaaPwfActs
set_option maxRecDepth 100000
set_option linter.unusedVariables false
namespace Go.Proofs.Ytlfedmjjjbhnpaa.storeAgain
open Go.RowKit Go.ChangeShapes Go.Proofs.Ytlfedmjjjbhnpaa.S2
theorem own : ownKnob Try.prog.godebug = none := by kernel_rfl
theorem laidOut : laidOutB Try.prog = true := by kernel_rfl
theorem shape : skArgs Try.prog Try.f11.params.toList = some args_law22_StoreAgain := by kernel_rfl
theorem many : Try.f11.params.toList.length = 2 := by kernel_rfl
theorem told (H : Type) (ds : List (DataW H)) (h : ds.length = Try.f11.params.toList.length) : Rows.storeAgainSpec.fn H ds = { results := [.lit (.bool true)], args := ds } := by
  rw [many] at h
  match ds, h with
  | [d0, d1], _ => rfl
theorem plain (x : args_law22_StoreAgain.T) (h : args_law22_StoreAgain.wf Try.prog x) : F_law22_StoreAgain x () = some (true, ()) := by obtain ⟨h1, _, _⟩ := h; exact p_Again (acts_wf h1)
theorem wit (os : Os) (H : Type) (enc : TypeId × Value → H) : ∃ (w : World) (tape : Tape) (i : Input), w.os = os ∧ (w.forCall tape i).Shaped Try.checked.prog ∧ i.vars = [] ∧ Input.okWide Try.checked.prog (w.forCall tape i) .any w.heap.size 11 i ∧
    Rows.storeAgainSpec.pre6 enc Try.checked.prog Try.f11 Rows.storeAgainRow.domain false (w.forCall tape i).memory i.args ∧ ({} : Assume).holds Try.checked.prog (lone (Frame.enter Try.checked.prog 11 i.args .normal) [] (w.forCall tape i)) :=
  ChangeSpec.witness6 (os := os) (f := 11) (fn := Try.f11) (s := Rows.storeAgainSpec) (conds := Rows.storeAgainRow.domain) (apart := false) (enc := enc) (C := Try.checked) false ⟨#[], #[.slice none 0 0, .slice none 0 0], []⟩ 12 (by kernel_rfl) (by kernel_rfl) (by kernel_rfl) (by kernel_rfl)
theorem called (W : World) (vs : List Value) (x : args_law22_StoreAgain.T) (hx : SV.RL W (fun _ => False) (fun _ => none) (args_law22_StoreAgain.svs x) vs) (hw : args_law22_StoreAgain.wf Try.checked.prog x) :
    Calls Try.checked.prog 11 vs.toArray W fun e W' => e = .returned (.bool true) ∧ Below W.heap.size W W' := law_calls fn_law22_StoreAgain ok_law22_StoreAgain hx (plain x hw)
theorem lifted (os : Os) (started : os.Started) (H : Type) (enc : TypeId × Value → H) :
    ReturnsInHanded {} Try.checked os 11 .any (Rows.storeAgainSpec.pre6 enc Try.prog Try.f11 Rows.storeAgainRow.domain false) (Rows.storeAgainSpec.post enc Try.prog Try.f11 false true false false) :=
  law_lifted (C := Try.checked) (l := args_law22_StoreAgain) (tb := 4) own started (by kernel_rfl) Try.func11
    (wit os H enc)
    rfl (told H) (by kernel_rfl) (by kernel_rfl) laidOut (by kernel_rfl) shape (by kernel_rfl)
    called
theorem over : Rows.storeAgainRow.holds Try.pinned (OpenSpec.ofChange Rows.storeAgainSpec) :=
  OpenClaim.holds_of_wide 11 Try.f11 rfl rfl rfl rfl rfl rfl rfl ⟨rfl, rfl, rfl, rfl, rfl⟩ rfl rfl rfl rfl rfl (by kernel_rfl) Try.func11 (by kernel_rfl)
    (of_decide_eq_true (by kernel_rfl)) (by unfold Func.isWrapper; first | (rw [if_pos (by decide +kernel)]; kernel_rfl) | (rw [if_neg (by decide +kernel)]; exact ⟨rfl, rfl⟩))
    (fun os started H enc _ => lifted os started H enc)
theorem proved : Rows.StoreAgainSaid := over
end Go.Proofs.Ytlfedmjjjbhnpaa.storeAgain
namespace Go.Proofs.Ytlfedmjjjbhnpaa
/-- The statement. -/
theorem storeAgain_holds : Rows.StoreAgainSaid := storeAgain.proved
#print axioms storeAgain_holds
end Go.Proofs.Ytlfedmjjjbhnpaa

