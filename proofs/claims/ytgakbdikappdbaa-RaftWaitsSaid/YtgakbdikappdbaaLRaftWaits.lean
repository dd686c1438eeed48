/- As long as a node waits its ticks send nothing, and change nothing but how long it waits. -/
import Derived.Test.YtgakbdikappdbaaRows
import Derived.Test.YtgakbdikappdbaaHLRaftWaits
import Derived.Test.YtgakbdikappdbaaPRWaits
set_option maxRecDepth 100000
set_option linter.unusedVariables false
namespace Go.Proofs.Ytgakbdikappdbaa.raftWaits
open Go.RowKit Go.ChangeShapes Go.Proofs.Ytgakbdikappdbaa.S2
theorem own : ownKnob Try.prog.godebug = none := by kernel_rfl
theorem laidOut : laidOutB Try.prog = true := by kernel_rfl
theorem shape : skArgs Try.prog Try.f4.params.toList = some args_law18_RaftWaits := by kernel_rfl
theorem many : Try.f4.params.toList.length = 2 := by kernel_rfl
theorem told (H : Type) (ds : List (DataW H)) (h : ds.length = Try.f4.params.toList.length) : Rows.raftWaitsSpec.fn H ds = { results := [.lit (.bool true)], args := ds } := by
  rw [many] at h
  match ds, h with
  | [d0, d1], _ => rfl
theorem plain (x : args_law18_RaftWaits.T) (h : args_law18_RaftWaits.wf Try.prog x) : F_law18_RaftWaits x () = some (true, ()) := by obtain ⟨n, r, _⟩ := x; exact RaftWaits_plain n r
theorem wit (os : Os) (H : Type) (enc : TypeId × Value → H) : ∃ (w : World) (tape : Tape) (i : Input), w.os = os ∧ (w.forCall tape i).Shaped Try.checked.prog ∧ i.vars = [] ∧ Input.okWide Try.checked.prog (w.forCall tape i) .any w.heap.size 4 i ∧
    Rows.raftWaitsSpec.pre6 enc Try.checked.prog Try.f4 Rows.raftWaitsRow.domain false (w.forCall tape i).memory i.args ∧ ({} : Assume).holds Try.checked.prog (lone (Frame.enter Try.checked.prog 4 i.args .normal) [] (w.forCall tape i)) :=
  ChangeSpec.witness6 (os := os) (f := 4) (fn := Try.f4) (s := Rows.raftWaitsSpec) (conds := Rows.raftWaitsRow.domain) (apart := false) (enc := enc) (C := Try.checked) false ⟨#[], #[.agg #[.int .u64 0, .slice none 0 0, .int .u64 0, .int .u64 0, .int .u64 0, .int .u64 0, .slice none 0 0, .string ByteArray.empty, .int .i64 0, .int .u64 0, .int .u64 0, .slice none 0 0, .slice none 0 0, .int .i64 0], .int .i64 0], []⟩ 12 (by kernel_rfl) (by kernel_rfl) (by kernel_rfl) (by kernel_rfl)
theorem called (W : World) (vs : List Value) (x : args_law18_RaftWaits.T) (hx : SV.RL W (fun _ => False) (fun _ => none) (args_law18_RaftWaits.svs x) vs) (hw : args_law18_RaftWaits.wf Try.checked.prog x) :
    Calls Try.checked.prog 4 vs.toArray W fun e W' => e = .returned (.bool true) ∧ Below W.heap.size W W' := law_calls fn_law18_RaftWaits ok_law18_RaftWaits hx (plain x hw)
theorem lifted (os : Os) (started : os.Started) (H : Type) (enc : TypeId × Value → H) :
    ReturnsInHanded {} Try.checked os 4 .any (Rows.raftWaitsSpec.pre6 enc Try.prog Try.f4 Rows.raftWaitsRow.domain false) (Rows.raftWaitsSpec.post enc Try.prog Try.f4 false true false false) :=
  law_lifted (C := Try.checked) (l := args_law18_RaftWaits) (tb := 4) own started (by kernel_rfl) Try.func4
    (wit os H enc)
    rfl (told H) (by kernel_rfl) (by kernel_rfl) laidOut (by kernel_rfl) shape (by kernel_rfl)
    called
theorem over : Rows.raftWaitsRow.holds Try.pinned (OpenSpec.ofChange Rows.raftWaitsSpec) :=
  OpenClaim.holds_of_wide 4 Try.f4 rfl rfl rfl rfl rfl rfl rfl ⟨rfl, rfl, rfl, rfl, rfl⟩ rfl rfl rfl rfl rfl (by kernel_rfl) Try.func4 (by kernel_rfl)
    (of_decide_eq_true (by kernel_rfl)) (by unfold Func.isWrapper; first | (rw [if_pos (by decide +kernel)]; kernel_rfl) | (rw [if_neg (by decide +kernel)]; exact ⟨rfl, rfl⟩))
    (fun os started H enc _ => lifted os started H enc)
theorem proved : Rows.RaftWaitsSaid := over
end Go.Proofs.Ytgakbdikappdbaa.raftWaits
namespace Go.Proofs.Ytgakbdikappdbaa
theorem raftWaits_holds : Rows.RaftWaitsSaid := raftWaits.proved
#print axioms raftWaits_holds
end Go.Proofs.Ytgakbdikappdbaa
