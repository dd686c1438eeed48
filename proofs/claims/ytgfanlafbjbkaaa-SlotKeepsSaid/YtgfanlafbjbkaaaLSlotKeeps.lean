/- Behind any saves, and a crash within another one, what is loaded is what was saved last, or the new text; and it can be saved again. -/
import Derived.Test.YtgfanlafbjbkaaaRows
import Derived.Test.YtgfanlafbjbkaaaHLSlotKeeps
import Derived.Test.YtgfanlafbjbkaaaPSlotKeeps
set_option maxRecDepth 100000
set_option linter.unusedVariables false
namespace Go.Proofs.Ytgfanlafbjbkaaa.slotKeeps
open Go.RowKit Go.ChangeShapes Go.Proofs.Ytgfanlafbjbkaaa.S2
theorem own : ownKnob Try.prog.godebug = none := by kernel_rfl
theorem laidOut : laidOutB Try.prog = true := by kernel_rfl
theorem shape : skArgs Try.prog Try.f11.params.toList = some args_law09_SlotKeeps := by kernel_rfl
theorem many : Try.f11.params.toList.length = 3 := by kernel_rfl
theorem told (H : Type) (ds : List (DataW H)) (h : ds.length = Try.f11.params.toList.length) : Rows.slotKeepsSpec.fn H ds = { results := [.lit (.bool true)], args := ds } := by
  rw [many] at h
  match ds, h with
  | [d0, d1, d2], _ => rfl
theorem plain (x : args_law09_SlotKeeps.T) (h : args_law09_SlotKeeps.wf Try.prog x) : F_law09_SlotKeeps x () = some (true, ()) := plain_Keeps x
theorem wit (os : Os) (H : Type) (enc : TypeId × Value → H) : ∃ (w : World) (tape : Tape) (i : Input), w.os = os ∧ (w.forCall tape i).Shaped Try.checked.prog ∧ i.vars = [] ∧ Input.okWide Try.checked.prog (w.forCall tape i) .any w.heap.size 11 i ∧
    Rows.slotKeepsSpec.pre6 enc Try.checked.prog Try.f11 Rows.slotKeepsRow.domain false (w.forCall tape i).memory i.args ∧ ({} : Assume).holds Try.checked.prog (lone (Frame.enter Try.checked.prog 11 i.args .normal) [] (w.forCall tape i)) :=
  ChangeSpec.witness6 (os := os) (f := 11) (fn := Try.f11) (s := Rows.slotKeepsSpec) (conds := Rows.slotKeepsRow.domain) (apart := false) (enc := enc) (C := Try.checked) false ⟨#[], #[.slice none 0 0, .agg #[.string ByteArray.empty, .string ByteArray.empty], .int .i64 0], []⟩ 12 (by kernel_rfl) (by kernel_rfl) (by kernel_rfl) (by kernel_rfl)
theorem called (W : World) (vs : List Value) (x : args_law09_SlotKeeps.T) (hx : SV.RL W (fun _ => False) (fun _ => none) (args_law09_SlotKeeps.svs x) vs) (hw : args_law09_SlotKeeps.wf Try.checked.prog x) :
    Calls Try.checked.prog 11 vs.toArray W fun e W' => e = .returned (.bool true) ∧ Below W.heap.size W W' := law_calls fn_law09_SlotKeeps ok_law09_SlotKeeps hx (plain x hw)
theorem lifted (os : Os) (started : os.Started) (H : Type) (enc : TypeId × Value → H) :
    ReturnsInHanded {} Try.checked os 11 .any (Rows.slotKeepsSpec.pre6 enc Try.prog Try.f11 Rows.slotKeepsRow.domain false) (Rows.slotKeepsSpec.post enc Try.prog Try.f11 false true false false) :=
  law_lifted (C := Try.checked) (l := args_law09_SlotKeeps) (tb := 4) own started (by kernel_rfl) Try.func11
    (wit os H enc)
    rfl (told H) (by kernel_rfl) (by kernel_rfl) laidOut (by kernel_rfl) shape (by kernel_rfl)
    called
theorem over : Rows.slotKeepsRow.holds Try.pinned (OpenSpec.ofChange Rows.slotKeepsSpec) :=
  OpenClaim.holds_of_wide 11 Try.f11 rfl rfl rfl rfl rfl rfl rfl ⟨rfl, rfl, rfl, rfl, rfl⟩ rfl rfl rfl rfl rfl (by kernel_rfl) Try.func11 (by kernel_rfl)
    (of_decide_eq_true (by kernel_rfl)) (by unfold Func.isWrapper; first | (rw [if_pos (by decide +kernel)]; kernel_rfl) | (rw [if_neg (by decide +kernel)]; exact ⟨rfl, rfl⟩))
    (fun os started H enc _ => lifted os started H enc)
theorem proved : Rows.SlotKeepsSaid := over
end Go.Proofs.Ytgfanlafbjbkaaa.slotKeeps
namespace Go.Proofs.Ytgfanlafbjbkaaa
/-- The statement. -/
theorem slotKeeps_holds : Rows.SlotKeepsSaid := slotKeeps.proved
#print axioms slotKeeps_holds
end Go.Proofs.Ytgfanlafbjbkaaa

