/- Behind a crash a node has what it must not forget, and nothing else, and hears as it would have. -/
import Derived.Test.YtgakbdikappdbaaGreatRows
import Derived.Test.YtgakbdikappdbaaGreatHLRaftCrash
import Derived.Test.YtgakbdikappdbaaGreatPRCrash
import Derived.Test.YtgakbdikappdbaaGreatPwfC
set_option maxRecDepth 100000
set_option linter.unusedVariables false
namespace Go.Proofs.YtgakbdikappdbaaGreat.raftCrash
open Go.RowKit Go.ChangeShapes Go.Proofs.YtgakbdikappdbaaGreat.S2
theorem own : ownKnob Tryz.prog.godebug = none := by kernel_rfl
theorem laidOut : laidOutB Tryz.prog = true := by kernel_rfl
theorem shape : skArgs Tryz.prog Tryz.f3.params.toList = some args_law18_RaftCrash := by kernel_rfl
theorem many : Tryz.f3.params.toList.length = 2 := by kernel_rfl
theorem told (H : Type) (ds : List (DataW H)) (h : ds.length = Tryz.f3.params.toList.length) : Rows.raftCrashSpec.fn H ds = { results := [.lit (.bool true)], args := ds } := by
  rw [many] at h
  match ds, h with
  | [d0, d1], _ => rfl
theorem plain (x : args_law18_RaftCrash.T) (h : args_law18_RaftCrash.wf Tryz.prog x) : F_law18_RaftCrash x () = some (true, ()) := by obtain ⟨n, ⟨k, nums, texts, ⟨⟩⟩, ⟨⟩⟩ := x; obtain ⟨h1, h2, _⟩ := h; exact RaftCrash_plain n k nums texts (wf_u64 h1.2.2.2.2.1).1 (wf_Uq h2.2.1)
theorem wit (os : Os) (H : Type) (enc : TypeId × Value → H) : ∃ (w : World) (tape : Tape) (i : Input), w.os = os ∧ (w.forCall tape i).Shaped Tryz.checked.prog ∧ i.vars = [] ∧ Input.okWide Tryz.checked.prog (w.forCall tape i) .any w.heap.size 3 i ∧
    Rows.raftCrashSpec.pre6 enc Tryz.checked.prog Tryz.f3 Rows.raftCrashRow.domain false (w.forCall tape i).memory i.args ∧ ({} : Assume).holds Tryz.checked.prog (lone (Frame.enter Tryz.checked.prog 3 i.args .normal) [] (w.forCall tape i)) :=
  ChangeSpec.witness6 (os := os) (f := 3) (fn := Tryz.f3) (s := Rows.raftCrashSpec) (conds := Rows.raftCrashRow.domain) (apart := false) (enc := enc) (C := Tryz.checked) false ⟨#[], #[.agg #[.int .u64 0, .slice none 0 0, .int .u64 0, .int .u64 0, .int .u64 0, .int .u64 0, .slice none 0 0, .string ByteArray.empty, .int .i64 0, .int .u64 0, .int .u64 0, .slice none 0 0, .slice none 0 0, .int .i64 0], .agg #[.int .i64 0, .slice none 0 0, .slice none 0 0]], []⟩ 12 (by kernel_rfl) (by kernel_rfl) (by kernel_rfl) (by kernel_rfl)
theorem called (W : World) (vs : List Value) (x : args_law18_RaftCrash.T) (hx : SV.RL W (fun _ => False) (fun _ => none) (args_law18_RaftCrash.svs x) vs) (hw : args_law18_RaftCrash.wf Tryz.checked.prog x) :
    Calls Tryz.checked.prog 3 vs.toArray W fun e W' => e = .returned (.bool true) ∧ Below W.heap.size W W' := law_calls fn_law18_RaftCrash ok_law18_RaftCrash hx (plain x hw)
theorem lifted (os : Os) (started : os.Started) (H : Type) (enc : TypeId × Value → H) :
    ReturnsInHanded {} Tryz.checked os 3 .any (Rows.raftCrashSpec.pre6 enc Tryz.prog Tryz.f3 Rows.raftCrashRow.domain false) (Rows.raftCrashSpec.post enc Tryz.prog Tryz.f3 false true false false) :=
  law_lifted (C := Tryz.checked) (l := args_law18_RaftCrash) (tb := 4) own started (by kernel_rfl) Tryz.func3
    (wit os H enc)
    rfl (told H) (by kernel_rfl) (by kernel_rfl) laidOut (by kernel_rfl) shape (by kernel_rfl)
    called
theorem over : Rows.raftCrashRow.holds Tryz.pinned (OpenSpec.ofChange Rows.raftCrashSpec) :=
  OpenClaim.holds_of_wide 3 Tryz.f3 rfl rfl rfl rfl rfl rfl rfl ⟨rfl, rfl, rfl, rfl, rfl⟩ rfl rfl rfl rfl rfl (by kernel_rfl) Tryz.func3 (by kernel_rfl)
    (of_decide_eq_true (by kernel_rfl)) (by unfold Func.isWrapper; first | (rw [if_pos (by decide +kernel)]; kernel_rfl) | (rw [if_neg (by decide +kernel)]; exact ⟨rfl, rfl⟩))
    (fun os started H enc _ => lifted os started H enc)
theorem proved : Rows.RaftCrashSaid := over
end Go.Proofs.YtgakbdikappdbaaGreat.raftCrash
namespace Go.Proofs.YtgakbdikappdbaaGreat
theorem raftCrash_holds : Rows.RaftCrashSaid := raftCrash.proved
#print axioms raftCrash_holds
end Go.Proofs.YtgakbdikappdbaaGreat
