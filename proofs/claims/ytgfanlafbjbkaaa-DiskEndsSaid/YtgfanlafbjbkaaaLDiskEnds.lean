/- A crash that keeps all is a flush; one that keeps nothing takes back to what was safe. -/
import Derived.Test.YtgfanlafbjbkaaaRows
import Derived.Test.YtgfanlafbjbkaaaH4
import Derived.Test.YtgfanlafbjbkaaaQ4
set_option maxRecDepth 100000
set_option linter.unusedVariables false
namespace Go.Proofs.Ytgfanlafbjbkaaa.diskEnds
open Go.RowKit Go.ChangeShapes Go.Proofs.Ytgfanlafbjbkaaa.S2
theorem own : ownKnob Try.prog.godebug = none := by kernel_rfl
theorem laidOut : laidOutB Try.prog = true := by kernel_rfl
theorem shape : skArgs Try.prog Try.f5.params.toList = some args_law08_DiskEnds := by kernel_rfl
theorem many : Try.f5.params.toList.length = 1 := by kernel_rfl
theorem told (H : Type) (ds : List (DataW H)) (h : ds.length = Try.f5.params.toList.length) : Rows.diskEndsSpec.fn H ds = { results := [.lit (.bool true)], args := ds } := by
  rw [many] at h
  match ds, h with
  | [d0], _ => rfl
theorem plain (x : args_law08_DiskEnds.T) (h : args_law08_DiskEnds.wf Try.prog x) : F_law08_DiskEnds x () = some (true, ()) := plain_Ends x
theorem wit (os : Os) (H : Type) (enc : TypeId × Value → H) : ∃ (w : World) (tape : Tape) (i : Input), w.os = os ∧ (w.forCall tape i).Shaped Try.checked.prog ∧ i.vars = [] ∧ Input.okWide Try.checked.prog (w.forCall tape i) .any w.heap.size 5 i ∧
    Rows.diskEndsSpec.pre6 enc Try.checked.prog Try.f5 Rows.diskEndsRow.domain false (w.forCall tape i).memory i.args ∧ ({} : Assume).holds Try.checked.prog (lone (Frame.enter Try.checked.prog 5 i.args .normal) [] (w.forCall tape i)) :=
  ChangeSpec.witness6 (os := os) (f := 5) (fn := Try.f5) (s := Rows.diskEndsSpec) (conds := Rows.diskEndsRow.domain) (apart := false) (enc := enc) (C := Try.checked) false ⟨#[], #[.agg #[.int .i64 0, .int .i64 0, .slice none 0 0]], []⟩ 12 (by kernel_rfl) (by kernel_rfl) (by kernel_rfl) (by kernel_rfl)
theorem called (W : World) (vs : List Value) (x : args_law08_DiskEnds.T) (hx : SV.RL W (fun _ => False) (fun _ => none) (args_law08_DiskEnds.svs x) vs) (hw : args_law08_DiskEnds.wf Try.checked.prog x) :
    Calls Try.checked.prog 5 vs.toArray W fun e W' => e = .returned (.bool true) ∧ Below W.heap.size W W' := law_calls fn_law08_DiskEnds ok_law08_DiskEnds hx (plain x hw)
theorem lifted (os : Os) (started : os.Started) (H : Type) (enc : TypeId × Value → H) :
    ReturnsInHanded {} Try.checked os 5 .any (Rows.diskEndsSpec.pre6 enc Try.prog Try.f5 Rows.diskEndsRow.domain false) (Rows.diskEndsSpec.post enc Try.prog Try.f5 false true false false) :=
  law_lifted (C := Try.checked) (l := args_law08_DiskEnds) (tb := 4) own started (by kernel_rfl) Try.func5
    (wit os H enc)
    rfl (told H) (by kernel_rfl) (by kernel_rfl) laidOut (by kernel_rfl) shape (by kernel_rfl)
    called
theorem over : Rows.diskEndsRow.holds Try.pinned (OpenSpec.ofChange Rows.diskEndsSpec) :=
  OpenClaim.holds_of_wide 5 Try.f5 rfl rfl rfl rfl rfl rfl rfl ⟨rfl, rfl, rfl, rfl, rfl⟩ rfl rfl rfl rfl rfl (by kernel_rfl) Try.func5 (by kernel_rfl)
    (of_decide_eq_true (by kernel_rfl)) (by unfold Func.isWrapper; first | (rw [if_pos (by decide +kernel)]; kernel_rfl) | (rw [if_neg (by decide +kernel)]; exact ⟨rfl, rfl⟩))
    (fun os started H enc _ => lifted os started H enc)
theorem proved : Rows.DiskEndsSaid := over
end Go.Proofs.Ytgfanlafbjbkaaa.diskEnds
namespace Go.Proofs.Ytgfanlafbjbkaaa
/-- The statement. -/
theorem diskEnds_holds : Rows.DiskEndsSaid := diskEnds.proved
#print axioms diskEnds_holds
end Go.Proofs.Ytgfanlafbjbkaaa

