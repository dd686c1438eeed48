/- Where a crash cuts short the write of any of these, what is trusted then is what was trusted ahead of it, or what would have been behind it; and one goes on from there. -/
import Derived.Test.YtlfedmjjjbhnpaaRows
import Derived.Test.YtlfedmjjjbhnpaaHLStoreKeeps
import Derived.Test.YtlfedmjjjbhnpaaPStoreKeeps
import Derived.Test.YtlfedmjjjbhnpaaPwfActs
set_option maxRecDepth 100000
set_option linter.unusedVariables false
namespace Go.Proofs.Ytlfedmjjjbhnpaa.storeKeeps
open Go.RowKit Go.ChangeShapes Go.Proofs.Ytlfedmjjjbhnpaa.S2
theorem own : ownKnob Try.prog.godebug = none := by kernel_rfl
theorem laidOut : laidOutB Try.prog = true := by kernel_rfl
theorem shape : skArgs Try.prog Try.f10.params.toList = some args_law22_StoreKeeps := by kernel_rfl
theorem many : Try.f10.params.toList.length = 3 := by kernel_rfl
theorem told (H : Type) (ds : List (DataW H)) (h : ds.length = Try.f10.params.toList.length) : Rows.storeKeepsSpec.fn H ds = { results := [.lit (.bool true)], args := ds } := by
  rw [many] at h
  match ds, h with
  | [d0, d1, d2], _ => rfl
theorem plain (x : args_law22_StoreKeeps.T) (h : args_law22_StoreKeeps.wf Try.prog x) : F_law22_StoreKeeps x () = some (true, ()) := by obtain ⟨l, ⟨a, b, c, d, e, f, _⟩, cut, _⟩ := x; obtain ⟨hl, ⟨_, _, h3, h4, h5, _⟩, _, _⟩ := h; exact p_Keeps (x := (a, b, c, d, e, f)) (acts_wf hl) ⟨wf_u64 h3, wf_u64 h4, Nat.le_trans h5 (by decide)⟩
theorem wit (os : Os) (H : Type) (enc : TypeId × Value → H) : ∃ (w : World) (tape : Tape) (i : Input), w.os = os ∧ (w.forCall tape i).Shaped Try.checked.prog ∧ i.vars = [] ∧ Input.okWide Try.checked.prog (w.forCall tape i) .any w.heap.size 10 i ∧
    Rows.storeKeepsSpec.pre6 enc Try.checked.prog Try.f10 Rows.storeKeepsRow.domain false (w.forCall tape i).memory i.args ∧ ({} : Assume).holds Try.checked.prog (lone (Frame.enter Try.checked.prog 10 i.args .normal) [] (w.forCall tape i)) :=
  ChangeSpec.witness6 (os := os) (f := 10) (fn := Try.f10) (s := Rows.storeKeepsSpec) (conds := Rows.storeKeepsRow.domain) (apart := false) (enc := enc) (C := Try.checked) false ⟨#[], #[.slice none 0 0, .agg #[.int .i64 0, .int .i64 0, .int .u64 0, .int .u64 0, .string ByteArray.empty, .slice none 0 0], .int .i64 0], []⟩ 12 (by kernel_rfl) (by kernel_rfl) (by kernel_rfl) (by kernel_rfl)
theorem called (W : World) (vs : List Value) (x : args_law22_StoreKeeps.T) (hx : SV.RL W (fun _ => False) (fun _ => none) (args_law22_StoreKeeps.svs x) vs) (hw : args_law22_StoreKeeps.wf Try.checked.prog x) :
    Calls Try.checked.prog 10 vs.toArray W fun e W' => e = .returned (.bool true) ∧ Below W.heap.size W W' := law_calls fn_law22_StoreKeeps ok_law22_StoreKeeps hx (plain x hw)
theorem lifted (os : Os) (started : os.Started) (H : Type) (enc : TypeId × Value → H) :
    ReturnsInHanded {} Try.checked os 10 .any (Rows.storeKeepsSpec.pre6 enc Try.prog Try.f10 Rows.storeKeepsRow.domain false) (Rows.storeKeepsSpec.post enc Try.prog Try.f10 false true false false) :=
  law_lifted (C := Try.checked) (l := args_law22_StoreKeeps) (tb := 4) own started (by kernel_rfl) Try.func10
    (wit os H enc)
    rfl (told H) (by kernel_rfl) (by kernel_rfl) laidOut (by kernel_rfl) shape (by kernel_rfl)
    called
theorem over : Rows.storeKeepsRow.holds Try.pinned (OpenSpec.ofChange Rows.storeKeepsSpec) :=
  OpenClaim.holds_of_wide 10 Try.f10 rfl rfl rfl rfl rfl rfl rfl ⟨rfl, rfl, rfl, rfl, rfl⟩ rfl rfl rfl rfl rfl (by kernel_rfl) Try.func10 (by kernel_rfl)
    (of_decide_eq_true (by kernel_rfl)) (by unfold Func.isWrapper; first | (rw [if_pos (by decide +kernel)]; kernel_rfl) | (rw [if_neg (by decide +kernel)]; exact ⟨rfl, rfl⟩))
    (fun os started H enc _ => lifted os started H enc)
theorem proved : Rows.StoreKeepsSaid := over
end Go.Proofs.Ytlfedmjjjbhnpaa.storeKeeps
namespace Go.Proofs.Ytlfedmjjjbhnpaa
/-- The statement. -/
theorem storeKeeps_holds : Rows.StoreKeepsSaid := storeKeeps.proved
#print axioms storeKeeps_holds
end Go.Proofs.Ytlfedmjjjbhnpaa

