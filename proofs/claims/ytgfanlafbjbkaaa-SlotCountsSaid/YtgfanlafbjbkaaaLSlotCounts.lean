/- Each text that is saved has the next number, from 1 on, and is loaded till another one is; one that is too long changes nothing. -/
import Derived.Test.YtgfanlafbjbkaaaRows
import Derived.Test.YtgfanlafbjbkaaaHLSlotCounts
import Derived.Test.YtgfanlafbjbkaaaPSlotCounts
set_option maxRecDepth 100000
set_option linter.unusedVariables false
namespace Go.Proofs.Ytgfanlafbjbkaaa.slotCounts
open Go.RowKit Go.ChangeShapes Go.Proofs.Ytgfanlafbjbkaaa.S2
theorem own : ownKnob Try.prog.godebug = none := by kernel_rfl
theorem laidOut : laidOutB Try.prog = true := by kernel_rfl
theorem shape : skArgs Try.prog Try.f10.params.toList = some args_law09_SlotCounts := by kernel_rfl
theorem many : Try.f10.params.toList.length = 1 := by kernel_rfl
theorem told (H : Type) (ds : List (DataW H)) (h : ds.length = Try.f10.params.toList.length) : Rows.slotCountsSpec.fn H ds = { results := [.lit (.bool true)], args := ds } := by
  rw [many] at h
  match ds, h with
  | [d0], _ => rfl
theorem plain (x : args_law09_SlotCounts.T) (h : args_law09_SlotCounts.wf Try.prog x) : F_law09_SlotCounts x () = some (true, ()) := plain_Counts x
theorem wit (os : Os) (H : Type) (enc : TypeId × Value → H) : ∃ (w : World) (tape : Tape) (i : Input), w.os = os ∧ (w.forCall tape i).Shaped Try.checked.prog ∧ i.vars = [] ∧ Input.okWide Try.checked.prog (w.forCall tape i) .any w.heap.size 10 i ∧
    Rows.slotCountsSpec.pre6 enc Try.checked.prog Try.f10 Rows.slotCountsRow.domain false (w.forCall tape i).memory i.args ∧ ({} : Assume).holds Try.checked.prog (lone (Frame.enter Try.checked.prog 10 i.args .normal) [] (w.forCall tape i)) :=
  ChangeSpec.witness6 (os := os) (f := 10) (fn := Try.f10) (s := Rows.slotCountsSpec) (conds := Rows.slotCountsRow.domain) (apart := false) (enc := enc) (C := Try.checked) false ⟨#[], #[.slice none 0 0], []⟩ 12 (by kernel_rfl) (by kernel_rfl) (by kernel_rfl) (by kernel_rfl)
theorem called (W : World) (vs : List Value) (x : args_law09_SlotCounts.T) (hx : SV.RL W (fun _ => False) (fun _ => none) (args_law09_SlotCounts.svs x) vs) (hw : args_law09_SlotCounts.wf Try.checked.prog x) :
    Calls Try.checked.prog 10 vs.toArray W fun e W' => e = .returned (.bool true) ∧ Below W.heap.size W W' := law_calls fn_law09_SlotCounts ok_law09_SlotCounts hx (plain x hw)
theorem lifted (os : Os) (started : os.Started) (H : Type) (enc : TypeId × Value → H) :
    ReturnsInHanded {} Try.checked os 10 .any (Rows.slotCountsSpec.pre6 enc Try.prog Try.f10 Rows.slotCountsRow.domain false) (Rows.slotCountsSpec.post enc Try.prog Try.f10 false true false false) :=
  law_lifted (C := Try.checked) (l := args_law09_SlotCounts) (tb := 4) own started (by kernel_rfl) Try.func10
    (wit os H enc)
    rfl (told H) (by kernel_rfl) (by kernel_rfl) laidOut (by kernel_rfl) shape (by kernel_rfl)
    called
theorem over : Rows.slotCountsRow.holds Try.pinned (OpenSpec.ofChange Rows.slotCountsSpec) :=
  OpenClaim.holds_of_wide 10 Try.f10 rfl rfl rfl rfl rfl rfl rfl ⟨rfl, rfl, rfl, rfl, rfl⟩ rfl rfl rfl rfl rfl (by kernel_rfl) Try.func10 (by kernel_rfl)
    (of_decide_eq_true (by kernel_rfl)) (by unfold Func.isWrapper; first | (rw [if_pos (by decide +kernel)]; kernel_rfl) | (rw [if_neg (by decide +kernel)]; exact ⟨rfl, rfl⟩))
    (fun os started H enc _ => lifted os started H enc)
theorem proved : Rows.SlotCountsSaid := over
end Go.Proofs.Ytgfanlafbjbkaaa.slotCounts
namespace Go.Proofs.Ytgfanlafbjbkaaa
/-- The statement. -/
theorem slotCounts_holds : Rows.SlotCountsSaid := slotCounts.proved
#print axioms slotCounts_holds
end Go.Proofs.Ytgfanlafbjbkaaa

