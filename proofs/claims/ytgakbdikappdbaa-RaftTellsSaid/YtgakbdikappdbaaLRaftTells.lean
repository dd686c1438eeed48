/- The members of any node at any index, and a node that begins, are as the document says. -/
import Derived.Test.YtgakbdikappdbaaRows
import Derived.Test.YtgakbdikappdbaaHLRaftTells
import Derived.Test.YtgakbdikappdbaaPRTells
import Derived.Test.YtgakbdikappdbaaPwfR
set_option maxRecDepth 100000
set_option linter.unusedVariables false
namespace Go.Proofs.Ytgakbdikappdbaa.raftTells
open Go.RowKit Go.ChangeShapes Go.Proofs.Ytgakbdikappdbaa.S2
theorem own : ownKnob Try.prog.godebug = none := by kernel_rfl
theorem laidOut : laidOutB Try.prog = true := by kernel_rfl
theorem shape : skArgs Try.prog Try.f3.params.toList = some args_law18_RaftTells := by kernel_rfl
theorem many : Try.f3.params.toList.length = 2 := by kernel_rfl
theorem told (H : Type) (ds : List (DataW H)) (h : ds.length = Try.f3.params.toList.length) : Rows.raftTellsSpec.fn H ds = { results := [.lit (.bool true)], args := ds } := by
  rw [many] at h
  match ds, h with
  | [d0, d1], _ => rfl
theorem plain (x : args_law18_RaftTells.T) (h : args_law18_RaftTells.wf Try.prog x) : F_law18_RaftTells x () = some (true, ()) := by obtain ⟨n, i, _⟩ := x; obtain ⟨h1, _⟩ := h; exact RaftTells_plain n i (wf_ents h1.2.2.2.2.2.2.1)
theorem wit (os : Os) (H : Type) (enc : TypeId × Value → H) : ∃ (w : World) (tape : Tape) (i : Input), w.os = os ∧ (w.forCall tape i).Shaped Try.checked.prog ∧ i.vars = [] ∧ Input.okWide Try.checked.prog (w.forCall tape i) .any w.heap.size 3 i ∧
    Rows.raftTellsSpec.pre6 enc Try.checked.prog Try.f3 Rows.raftTellsRow.domain false (w.forCall tape i).memory i.args ∧ ({} : Assume).holds Try.checked.prog (lone (Frame.enter Try.checked.prog 3 i.args .normal) [] (w.forCall tape i)) :=
  ChangeSpec.witness6 (os := os) (f := 3) (fn := Try.f3) (s := Rows.raftTellsSpec) (conds := Rows.raftTellsRow.domain) (apart := false) (enc := enc) (C := Try.checked) false ⟨#[], #[.agg #[.int .u64 0, .slice none 0 0, .int .u64 0, .int .u64 0, .int .u64 0, .int .u64 0, .slice none 0 0, .string ByteArray.empty, .int .i64 0, .int .u64 0, .int .u64 0, .slice none 0 0, .slice none 0 0, .int .i64 0], .int .u64 0], []⟩ 12 (by kernel_rfl) (by kernel_rfl) (by kernel_rfl) (by kernel_rfl)
theorem called (W : World) (vs : List Value) (x : args_law18_RaftTells.T) (hx : SV.RL W (fun _ => False) (fun _ => none) (args_law18_RaftTells.svs x) vs) (hw : args_law18_RaftTells.wf Try.checked.prog x) :
    Calls Try.checked.prog 3 vs.toArray W fun e W' => e = .returned (.bool true) ∧ Below W.heap.size W W' := law_calls fn_law18_RaftTells ok_law18_RaftTells hx (plain x hw)
theorem lifted (os : Os) (started : os.Started) (H : Type) (enc : TypeId × Value → H) :
    ReturnsInHanded {} Try.checked os 3 .any (Rows.raftTellsSpec.pre6 enc Try.prog Try.f3 Rows.raftTellsRow.domain false) (Rows.raftTellsSpec.post enc Try.prog Try.f3 false true false false) :=
  law_lifted (C := Try.checked) (l := args_law18_RaftTells) (tb := 4) own started (by kernel_rfl) Try.func3
    (wit os H enc)
    rfl (told H) (by kernel_rfl) (by kernel_rfl) laidOut (by kernel_rfl) shape (by kernel_rfl)
    called
theorem over : Rows.raftTellsRow.holds Try.pinned (OpenSpec.ofChange Rows.raftTellsSpec) :=
  OpenClaim.holds_of_wide 3 Try.f3 rfl rfl rfl rfl rfl rfl rfl ⟨rfl, rfl, rfl, rfl, rfl⟩ rfl rfl rfl rfl rfl (by kernel_rfl) Try.func3 (by kernel_rfl)
    (of_decide_eq_true (by kernel_rfl)) (by unfold Func.isWrapper; first | (rw [if_pos (by decide +kernel)]; kernel_rfl) | (rw [if_neg (by decide +kernel)]; exact ⟨rfl, rfl⟩))
    (fun os started H enc _ => lifted os started H enc)
theorem proved : Rows.RaftTellsSaid := over
end Go.Proofs.Ytgakbdikappdbaa.raftTells
namespace Go.Proofs.Ytgakbdikappdbaa
theorem raftTells_holds : Rows.RaftTellsSaid := raftTells.proved
#print axioms raftTells_holds
end Go.Proofs.Ytgakbdikappdbaa
