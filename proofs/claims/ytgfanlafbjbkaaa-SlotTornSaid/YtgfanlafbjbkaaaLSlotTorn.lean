/- A framed sector, or one all 0, that is written over with a frame of another number, and cut short anywhere, says what it said ahead, or the new frame, or nothing. -/
import Derived.Test.YtgfanlafbjbkaaaRows
import Derived.Test.YtgfanlafbjbkaaaHLSlotTorn
import Derived.Test.YtgfanlafbjbkaaaPSlotTorn
set_option maxRecDepth 100000
set_option linter.unusedVariables false
namespace Go.Proofs.Ytgfanlafbjbkaaa.slotTorn
open Go.RowKit Go.ChangeShapes Go.Proofs.Ytgfanlafbjbkaaa.S2
theorem own : ownKnob Try.prog.godebug = none := by kernel_rfl
theorem laidOut : laidOutB Try.prog = true := by kernel_rfl
theorem shape : skArgs Try.prog Try.f9.params.toList = some args_law09_SlotTorn := by kernel_rfl
theorem many : Try.f9.params.toList.length = 3 := by kernel_rfl
theorem told (H : Type) (ds : List (DataW H)) (h : ds.length = Try.f9.params.toList.length) : Rows.slotTornSpec.fn H ds = { results := [.lit (.bool true)], args := ds } := by
  rw [many] at h
  match ds, h with
  | [d0, d1, d2], _ => rfl
theorem plain (x : args_law09_SlotTorn.T) (h : args_law09_SlotTorn.wf Try.prog x) : F_law09_SlotTorn x () = some (true, ()) := by obtain ⟨⟨hn, _, _, _⟩, ⟨hm, _, _, _⟩, _, _⟩ := h; exact p_Torn9 (wf_u64 hn).1 (wf_u64 hn).2 (wf_u64 hm).1 (wf_u64 hm).2
theorem wit (os : Os) (H : Type) (enc : TypeId × Value → H) : ∃ (w : World) (tape : Tape) (i : Input), w.os = os ∧ (w.forCall tape i).Shaped Try.checked.prog ∧ i.vars = [] ∧ Input.okWide Try.checked.prog (w.forCall tape i) .any w.heap.size 9 i ∧
    Rows.slotTornSpec.pre6 enc Try.checked.prog Try.f9 Rows.slotTornRow.domain false (w.forCall tape i).memory i.args ∧ ({} : Assume).holds Try.checked.prog (lone (Frame.enter Try.checked.prog 9 i.args .normal) [] (w.forCall tape i)) :=
  ChangeSpec.witness6 (os := os) (f := 9) (fn := Try.f9) (s := Rows.slotTornSpec) (conds := Rows.slotTornRow.domain) (apart := false) (enc := enc) (C := Try.checked) false ⟨#[], #[.agg #[.int .u64 0, .string ByteArray.empty, .int .i64 0], .agg #[.int .u64 0, .string ByteArray.empty, .int .i64 0], .int .i64 0], []⟩ 12 (by kernel_rfl) (by kernel_rfl) (by kernel_rfl) (by kernel_rfl)
theorem called (W : World) (vs : List Value) (x : args_law09_SlotTorn.T) (hx : SV.RL W (fun _ => False) (fun _ => none) (args_law09_SlotTorn.svs x) vs) (hw : args_law09_SlotTorn.wf Try.checked.prog x) :
    Calls Try.checked.prog 9 vs.toArray W fun e W' => e = .returned (.bool true) ∧ Below W.heap.size W W' := law_calls fn_law09_SlotTorn ok_law09_SlotTorn hx (plain x hw)
theorem lifted (os : Os) (started : os.Started) (H : Type) (enc : TypeId × Value → H) :
    ReturnsInHanded {} Try.checked os 9 .any (Rows.slotTornSpec.pre6 enc Try.prog Try.f9 Rows.slotTornRow.domain false) (Rows.slotTornSpec.post enc Try.prog Try.f9 false true false false) :=
  law_lifted (C := Try.checked) (l := args_law09_SlotTorn) (tb := 4) own started (by kernel_rfl) Try.func9
    (wit os H enc)
    rfl (told H) (by kernel_rfl) (by kernel_rfl) laidOut (by kernel_rfl) shape (by kernel_rfl)
    called
theorem over : Rows.slotTornRow.holds Try.pinned (OpenSpec.ofChange Rows.slotTornSpec) :=
  OpenClaim.holds_of_wide 9 Try.f9 rfl rfl rfl rfl rfl rfl rfl ⟨rfl, rfl, rfl, rfl, rfl⟩ rfl rfl rfl rfl rfl (by kernel_rfl) Try.func9 (by kernel_rfl)
    (of_decide_eq_true (by kernel_rfl)) (by unfold Func.isWrapper; first | (rw [if_pos (by decide +kernel)]; kernel_rfl) | (rw [if_neg (by decide +kernel)]; exact ⟨rfl, rfl⟩))
    (fun os started H enc _ => lifted os started H enc)
theorem proved : Rows.SlotTornSaid := over
end Go.Proofs.Ytgfanlafbjbkaaa.slotTorn
namespace Go.Proofs.Ytgfanlafbjbkaaa
/-- The statement. -/
theorem slotTorn_holds : Rows.SlotTornSaid := slotTorn.proved
#print axioms slotTorn_holds
end Go.Proofs.Ytgfanlafbjbkaaa

