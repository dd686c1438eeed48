/- What a slot keeps behind any acts is as the document says, act by act. -/
import Derived.Test.YtgfanlafbjbkaaaRows
import Derived.Test.YtgfanlafbjbkaaaHLSlotPlays
import Derived.Test.YtgfanlafbjbkaaaPSlotPlays
set_option maxRecDepth 100000
set_option linter.unusedVariables false
namespace Go.Proofs.Ytgfanlafbjbkaaa.slotPlays
open Go.RowKit Go.ChangeShapes Go.Proofs.Ytgfanlafbjbkaaa.S2
theorem own : ownKnob Try.prog.godebug = none := by kernel_rfl
theorem laidOut : laidOutB Try.prog = true := by kernel_rfl
theorem shape : skArgs Try.prog Try.f12.params.toList = some args_law09_SlotPlays := by kernel_rfl
theorem many : Try.f12.params.toList.length = 1 := by kernel_rfl
theorem told (H : Type) (ds : List (DataW H)) (h : ds.length = Try.f12.params.toList.length) : Rows.slotPlaysSpec.fn H ds = { results := [.lit (.bool true)], args := ds } := by
  rw [many] at h
  match ds, h with
  | [d0], _ => rfl
theorem plain (x : args_law09_SlotPlays.T) (h : args_law09_SlotPlays.wf Try.prog x) : F_law09_SlotPlays x () = some (true, ()) := plain_SPlays x
theorem wit (os : Os) (H : Type) (enc : TypeId × Value → H) : ∃ (w : World) (tape : Tape) (i : Input), w.os = os ∧ (w.forCall tape i).Shaped Try.checked.prog ∧ i.vars = [] ∧ Input.okWide Try.checked.prog (w.forCall tape i) .any w.heap.size 12 i ∧
    Rows.slotPlaysSpec.pre6 enc Try.checked.prog Try.f12 Rows.slotPlaysRow.domain false (w.forCall tape i).memory i.args ∧ ({} : Assume).holds Try.checked.prog (lone (Frame.enter Try.checked.prog 12 i.args .normal) [] (w.forCall tape i)) :=
  ChangeSpec.witness6 (os := os) (f := 12) (fn := Try.f12) (s := Rows.slotPlaysSpec) (conds := Rows.slotPlaysRow.domain) (apart := false) (enc := enc) (C := Try.checked) false ⟨#[], #[.agg #[.int .i64 0, .int .i64 0, .int .i64 0, .int .i64 0, .slice none 0 0]], []⟩ 12 (by kernel_rfl) (by kernel_rfl) (by kernel_rfl) (by kernel_rfl)
theorem called (W : World) (vs : List Value) (x : args_law09_SlotPlays.T) (hx : SV.RL W (fun _ => False) (fun _ => none) (args_law09_SlotPlays.svs x) vs) (hw : args_law09_SlotPlays.wf Try.checked.prog x) :
    Calls Try.checked.prog 12 vs.toArray W fun e W' => e = .returned (.bool true) ∧ Below W.heap.size W W' := law_calls fn_law09_SlotPlays ok_law09_SlotPlays hx (plain x hw)
theorem lifted (os : Os) (started : os.Started) (H : Type) (enc : TypeId × Value → H) :
    ReturnsInHanded {} Try.checked os 12 .any (Rows.slotPlaysSpec.pre6 enc Try.prog Try.f12 Rows.slotPlaysRow.domain false) (Rows.slotPlaysSpec.post enc Try.prog Try.f12 false true false false) :=
  law_lifted (C := Try.checked) (l := args_law09_SlotPlays) (tb := 4) own started (by kernel_rfl) Try.func12
    (wit os H enc)
    rfl (told H) (by kernel_rfl) (by kernel_rfl) laidOut (by kernel_rfl) shape (by kernel_rfl)
    called
theorem over : Rows.slotPlaysRow.holds Try.pinned (OpenSpec.ofChange Rows.slotPlaysSpec) :=
  OpenClaim.holds_of_wide 12 Try.f12 rfl rfl rfl rfl rfl rfl rfl ⟨rfl, rfl, rfl, rfl, rfl⟩ rfl rfl rfl rfl rfl (by kernel_rfl) Try.func12 (by kernel_rfl)
    (of_decide_eq_true (by kernel_rfl)) (by unfold Func.isWrapper; first | (rw [if_pos (by decide +kernel)]; kernel_rfl) | (rw [if_neg (by decide +kernel)]; exact ⟨rfl, rfl⟩))
    (fun os started H enc _ => lifted os started H enc)
theorem proved : Rows.SlotPlaysSaid := over
end Go.Proofs.Ytgfanlafbjbkaaa.slotPlays
namespace Go.Proofs.Ytgfanlafbjbkaaa
/-- The statement. -/
theorem slotPlays_holds : Rows.SlotPlaysSaid := slotPlays.proved
#print axioms slotPlays_holds
end Go.Proofs.Ytgfanlafbjbkaaa

