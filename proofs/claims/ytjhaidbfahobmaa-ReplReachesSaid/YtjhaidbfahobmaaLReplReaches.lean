/- A follower is brought to the leader terms. -/
import Derived.Test.YtjhaidbfahobmaaRows
import Derived.Test.YtjhaidbfahobmaaHLReplReaches
import Derived.Test.YtjhaidbfahobmaaPrepl3
import Derived.Test.YtjhaidbfahobmaaPwfLen
set_option maxRecDepth 100000
set_option linter.unusedVariables false
namespace Go.Proofs.Ytjhaidbfahobmaa.replReaches
open Go.RowKit Go.ChangeShapes Go.Proofs.Ytjhaidbfahobmaa.S2
theorem own : ownKnob Try.prog.godebug = none := by kernel_rfl
theorem laidOut : laidOutB Try.prog = true := by kernel_rfl
theorem shape : skArgs Try.prog Try.f11.params.toList = some args_law17_ReplReaches := by kernel_rfl
theorem many : Try.f11.params.toList.length = 3 := by kernel_rfl
theorem told (H : Type) (ds : List (DataW H)) (h : ds.length = Try.f11.params.toList.length) : Rows.replReachesSpec.fn H ds = { results := [.lit (.bool true)], args := ds } := by
  rw [many] at h
  match ds, h with
  | [d0, d1, d2], _ => rfl
theorem plain (x : args_law17_ReplReaches.T) (h : args_law17_ReplReaches.wf Try.prog x) : F_law17_ReplReaches x () = some (true, ()) := ReplReaches_plain
theorem wit (os : Os) (H : Type) (enc : TypeId × Value → H) : ∃ (w : World) (tape : Tape) (i : Input), w.os = os ∧ (w.forCall tape i).Shaped Try.checked.prog ∧ i.vars = [] ∧ Input.okWide Try.checked.prog (w.forCall tape i) .any w.heap.size 11 i ∧
    Rows.replReachesSpec.pre6 enc Try.checked.prog Try.f11 Rows.replReachesRow.domain false (w.forCall tape i).memory i.args ∧ ({} : Assume).holds Try.checked.prog (lone (Frame.enter Try.checked.prog 11 i.args .normal) [] (w.forCall tape i)) :=
  ChangeSpec.witness6 (os := os) (f := 11) (fn := Try.f11) (s := Rows.replReachesSpec) (conds := Rows.replReachesRow.domain) (apart := false) (enc := enc) (C := Try.checked) false ⟨#[], #[.agg #[.int .u64 0, .int .u64 0, .slice none 0 0], .agg #[.int .u64 0, .int .u64 0, .slice none 0 0], .int .i64 0], []⟩ 12 (by kernel_rfl) (by kernel_rfl) (by kernel_rfl) (by kernel_rfl)
theorem called (W : World) (vs : List Value) (x : args_law17_ReplReaches.T) (hx : SV.RL W (fun _ => False) (fun _ => none) (args_law17_ReplReaches.svs x) vs) (hw : args_law17_ReplReaches.wf Try.checked.prog x) :
    Calls Try.checked.prog 11 vs.toArray W fun e W' => e = .returned (.bool true) ∧ Below W.heap.size W W' := law_calls fn_law17_ReplReaches ok_law17_ReplReaches hx (plain x hw)
theorem lifted (os : Os) (started : os.Started) (H : Type) (enc : TypeId × Value → H) :
    ReturnsInHanded {} Try.checked os 11 .any (Rows.replReachesSpec.pre6 enc Try.prog Try.f11 Rows.replReachesRow.domain false) (Rows.replReachesSpec.post enc Try.prog Try.f11 false true false false) :=
  law_lifted (C := Try.checked) (l := args_law17_ReplReaches) (tb := 4) own started (by kernel_rfl) Try.func11
    (wit os H enc)
    rfl (told H) (by kernel_rfl) (by kernel_rfl) laidOut (by kernel_rfl) shape (by kernel_rfl)
    called
theorem over : Rows.replReachesRow.holds Try.pinned (OpenSpec.ofChange Rows.replReachesSpec) :=
  OpenClaim.holds_of_wide 11 Try.f11 rfl rfl rfl rfl rfl rfl rfl ⟨rfl, rfl, rfl, rfl, rfl⟩ rfl rfl rfl rfl rfl (by kernel_rfl) Try.func11 (by kernel_rfl)
    (of_decide_eq_true (by kernel_rfl)) (by unfold Func.isWrapper; first | (rw [if_pos (by decide +kernel)]; kernel_rfl) | (rw [if_neg (by decide +kernel)]; exact ⟨rfl, rfl⟩))
    (fun os started H enc _ => lifted os started H enc)
theorem proved : Rows.ReplReachesSaid := over
end Go.Proofs.Ytjhaidbfahobmaa.replReaches
namespace Go.Proofs.Ytjhaidbfahobmaa
/-- The statement. -/
theorem replReaches_holds : Rows.ReplReachesSaid := replReaches.proved
#print axioms replReaches_holds
end Go.Proofs.Ytjhaidbfahobmaa

