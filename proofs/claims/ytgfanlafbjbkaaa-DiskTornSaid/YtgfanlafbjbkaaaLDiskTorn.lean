/- Of one write that a crash cuts short the first bytes are there, and behind them what was safe. -/
import Derived.Test.YtgfanlafbjbkaaaRows
import Derived.Test.YtgfanlafbjbkaaaH3
import Derived.Test.YtgfanlafbjbkaaaQ3
set_option maxRecDepth 100000
set_option linter.unusedVariables false
namespace Go.Proofs.Ytgfanlafbjbkaaa.diskTorn
open Go.RowKit Go.ChangeShapes Go.Proofs.Ytgfanlafbjbkaaa.S2
theorem own : ownKnob Try.prog.godebug = none := by kernel_rfl
theorem laidOut : laidOutB Try.prog = true := by kernel_rfl
theorem shape : skArgs Try.prog Try.f6.params.toList = some args_law08_DiskTorn := by kernel_rfl
theorem many : Try.f6.params.toList.length = 2 := by kernel_rfl
theorem told (H : Type) (ds : List (DataW H)) (h : ds.length = Try.f6.params.toList.length) : Rows.diskTornSpec.fn H ds = { results := [.lit (.bool true)], args := ds } := by
  rw [many] at h
  match ds, h with
  | [d0, d1], _ => rfl
theorem plain (x : args_law08_DiskTorn.T) (h : args_law08_DiskTorn.wf Try.prog x) : F_law08_DiskTorn x () = some (true, ()) := plain_Torn x
theorem wit (os : Os) (H : Type) (enc : TypeId × Value → H) : ∃ (w : World) (tape : Tape) (i : Input), w.os = os ∧ (w.forCall tape i).Shaped Try.checked.prog ∧ i.vars = [] ∧ Input.okWide Try.checked.prog (w.forCall tape i) .any w.heap.size 6 i ∧
    Rows.diskTornSpec.pre6 enc Try.checked.prog Try.f6 Rows.diskTornRow.domain false (w.forCall tape i).memory i.args ∧ ({} : Assume).holds Try.checked.prog (lone (Frame.enter Try.checked.prog 6 i.args .normal) [] (w.forCall tape i)) :=
  ChangeSpec.witness6 (os := os) (f := 6) (fn := Try.f6) (s := Rows.diskTornSpec) (conds := Rows.diskTornRow.domain) (apart := false) (enc := enc) (C := Try.checked) false ⟨#[], #[.agg #[.int .i64 0, .int .i64 0, .slice none 0 0], .agg #[.int .i64 0, .string ByteArray.empty, .int .i64 0]], []⟩ 12 (by kernel_rfl) (by kernel_rfl) (by kernel_rfl) (by kernel_rfl)
theorem called (W : World) (vs : List Value) (x : args_law08_DiskTorn.T) (hx : SV.RL W (fun _ => False) (fun _ => none) (args_law08_DiskTorn.svs x) vs) (hw : args_law08_DiskTorn.wf Try.checked.prog x) :
    Calls Try.checked.prog 6 vs.toArray W fun e W' => e = .returned (.bool true) ∧ Below W.heap.size W W' := law_calls fn_law08_DiskTorn ok_law08_DiskTorn hx (plain x hw)
theorem lifted (os : Os) (started : os.Started) (H : Type) (enc : TypeId × Value → H) :
    ReturnsInHanded {} Try.checked os 6 .any (Rows.diskTornSpec.pre6 enc Try.prog Try.f6 Rows.diskTornRow.domain false) (Rows.diskTornSpec.post enc Try.prog Try.f6 false true false false) :=
  law_lifted (C := Try.checked) (l := args_law08_DiskTorn) (tb := 4) own started (by kernel_rfl) Try.func6
    (wit os H enc)
    rfl (told H) (by kernel_rfl) (by kernel_rfl) laidOut (by kernel_rfl) shape (by kernel_rfl)
    called
theorem over : Rows.diskTornRow.holds Try.pinned (OpenSpec.ofChange Rows.diskTornSpec) :=
  OpenClaim.holds_of_wide 6 Try.f6 rfl rfl rfl rfl rfl rfl rfl ⟨rfl, rfl, rfl, rfl, rfl⟩ rfl rfl rfl rfl rfl (by kernel_rfl) Try.func6 (by kernel_rfl)
    (of_decide_eq_true (by kernel_rfl)) (by unfold Func.isWrapper; first | (rw [if_pos (by decide +kernel)]; kernel_rfl) | (rw [if_neg (by decide +kernel)]; exact ⟨rfl, rfl⟩))
    (fun os started H enc _ => lifted os started H enc)
theorem proved : Rows.DiskTornSaid := over
end Go.Proofs.Ytgfanlafbjbkaaa.diskTorn
namespace Go.Proofs.Ytgfanlafbjbkaaa
/-- The statement. -/
theorem diskTorn_holds : Rows.DiskTornSaid := diskTorn.proved
#print axioms diskTorn_holds
end Go.Proofs.Ytgfanlafbjbkaaa

