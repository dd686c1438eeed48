/- Two writes to unlike sectors may change places: flushed the disk is the same. -/
import Derived.Test.YtgfanlafbjbkaaaRows
import Derived.Test.YtgfanlafbjbkaaaH2
import Derived.Test.YtgfanlafbjbkaaaQ3
set_option maxRecDepth 100000
set_option linter.unusedVariables false
namespace Go.Proofs.Ytgfanlafbjbkaaa.diskTurned
open Go.RowKit Go.ChangeShapes Go.Proofs.Ytgfanlafbjbkaaa.S2
theorem own : ownKnob Try.prog.godebug = none := by kernel_rfl
theorem laidOut : laidOutB Try.prog = true := by kernel_rfl
theorem shape : skArgs Try.prog Try.f7.params.toList = some args_law08_DiskTurned := by kernel_rfl
theorem many : Try.f7.params.toList.length = 3 := by kernel_rfl
theorem told (H : Type) (ds : List (DataW H)) (h : ds.length = Try.f7.params.toList.length) : Rows.diskTurnedSpec.fn H ds = { results := [.lit (.bool true)], args := ds } := by
  rw [many] at h
  match ds, h with
  | [d0, d1, d2], _ => rfl
theorem plain (x : args_law08_DiskTurned.T) (h : args_law08_DiskTurned.wf Try.prog x) : F_law08_DiskTurned x () = some (true, ()) := plain_Turned x
theorem wit (os : Os) (H : Type) (enc : TypeId × Value → H) : ∃ (w : World) (tape : Tape) (i : Input), w.os = os ∧ (w.forCall tape i).Shaped Try.checked.prog ∧ i.vars = [] ∧ Input.okWide Try.checked.prog (w.forCall tape i) .any w.heap.size 7 i ∧
    Rows.diskTurnedSpec.pre6 enc Try.checked.prog Try.f7 Rows.diskTurnedRow.domain false (w.forCall tape i).memory i.args ∧ ({} : Assume).holds Try.checked.prog (lone (Frame.enter Try.checked.prog 7 i.args .normal) [] (w.forCall tape i)) :=
  ChangeSpec.witness6 (os := os) (f := 7) (fn := Try.f7) (s := Rows.diskTurnedSpec) (conds := Rows.diskTurnedRow.domain) (apart := false) (enc := enc) (C := Try.checked) false ⟨#[], #[.agg #[.int .i64 0, .int .i64 0, .slice none 0 0], .agg #[.int .i64 0, .string ByteArray.empty, .int .i64 0], .agg #[.int .i64 0, .string ByteArray.empty, .int .i64 0]], []⟩ 12 (by kernel_rfl) (by kernel_rfl) (by kernel_rfl) (by kernel_rfl)
theorem called (W : World) (vs : List Value) (x : args_law08_DiskTurned.T) (hx : SV.RL W (fun _ => False) (fun _ => none) (args_law08_DiskTurned.svs x) vs) (hw : args_law08_DiskTurned.wf Try.checked.prog x) :
    Calls Try.checked.prog 7 vs.toArray W fun e W' => e = .returned (.bool true) ∧ Below W.heap.size W W' := law_calls fn_law08_DiskTurned ok_law08_DiskTurned hx (plain x hw)
theorem lifted (os : Os) (started : os.Started) (H : Type) (enc : TypeId × Value → H) :
    ReturnsInHanded {} Try.checked os 7 .any (Rows.diskTurnedSpec.pre6 enc Try.prog Try.f7 Rows.diskTurnedRow.domain false) (Rows.diskTurnedSpec.post enc Try.prog Try.f7 false true false false) :=
  law_lifted (C := Try.checked) (l := args_law08_DiskTurned) (tb := 4) own started (by kernel_rfl) Try.func7
    (wit os H enc)
    rfl (told H) (by kernel_rfl) (by kernel_rfl) laidOut (by kernel_rfl) shape (by kernel_rfl)
    called
theorem over : Rows.diskTurnedRow.holds Try.pinned (OpenSpec.ofChange Rows.diskTurnedSpec) :=
  OpenClaim.holds_of_wide 7 Try.f7 rfl rfl rfl rfl rfl rfl rfl ⟨rfl, rfl, rfl, rfl, rfl⟩ rfl rfl rfl rfl rfl (by kernel_rfl) Try.func7 (by kernel_rfl)
    (of_decide_eq_true (by kernel_rfl)) (by unfold Func.isWrapper; first | (rw [if_pos (by decide +kernel)]; kernel_rfl) | (rw [if_neg (by decide +kernel)]; exact ⟨rfl, rfl⟩))
    (fun os started H enc _ => lifted os started H enc)
theorem proved : Rows.DiskTurnedSaid := over
end Go.Proofs.Ytgfanlafbjbkaaa.diskTurned
namespace Go.Proofs.Ytgfanlafbjbkaaa
/-- The statement. -/
theorem diskTurned_holds : Rows.DiskTurnedSaid := diskTurned.proved
#print axioms diskTurned_holds
end Go.Proofs.Ytgfanlafbjbkaaa

