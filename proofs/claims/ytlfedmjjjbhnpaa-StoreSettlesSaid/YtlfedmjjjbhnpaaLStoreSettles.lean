/- What was intended, and settled as not happened, leaves no trace; as happened: its root, and one version more; nothing is intended where something is pending. -/
import Derived.Test.YtlfedmjjjbhnpaaRows
import Derived.Test.YtlfedmjjjbhnpaaHLStoreSettles
import Derived.Test.YtlfedmjjjbhnpaaPStores
set_option maxRecDepth 100000
set_option linter.unusedVariables false
namespace Go.Proofs.Ytlfedmjjjbhnpaa.storeSettles
open Go.RowKit Go.ChangeShapes Go.Proofs.Ytlfedmjjjbhnpaa.S2
theorem own : ownKnob Try.prog.godebug = none := by kernel_rfl
theorem laidOut : laidOutB Try.prog = true := by kernel_rfl
theorem shape : skArgs Try.prog Try.f8.params.toList = some args_law22_StoreSettles := by kernel_rfl
theorem many : Try.f8.params.toList.length = 2 := by kernel_rfl
theorem told (H : Type) (ds : List (DataW H)) (h : ds.length = Try.f8.params.toList.length) : Rows.storeSettlesSpec.fn H ds = { results := [.lit (.bool true)], args := ds } := by
  rw [many] at h
  match ds, h with
  | [d0, d1], _ => rfl
theorem plain (x : args_law22_StoreSettles.T) (h : args_law22_StoreSettles.wf Try.prog x) : F_law22_StoreSettles x () = some (true, ()) := by obtain ⟨⟨h1, h2, h3, _⟩, h6, _⟩ := h; exact p_Settles (wf_u64 h1) (wf_u64 h2) (wf_u64 h3) (Nat.le_trans h6 (by decide))
theorem wit (os : Os) (H : Type) (enc : TypeId × Value → H) : ∃ (w : World) (tape : Tape) (i : Input), w.os = os ∧ (w.forCall tape i).Shaped Try.checked.prog ∧ i.vars = [] ∧ Input.okWide Try.checked.prog (w.forCall tape i) .any w.heap.size 8 i ∧
    Rows.storeSettlesSpec.pre6 enc Try.checked.prog Try.f8 Rows.storeSettlesRow.domain false (w.forCall tape i).memory i.args ∧ ({} : Assume).holds Try.checked.prog (lone (Frame.enter Try.checked.prog 8 i.args .normal) [] (w.forCall tape i)) :=
  ChangeSpec.witness6 (os := os) (f := 8) (fn := Try.f8) (s := Rows.storeSettlesSpec) (conds := Rows.storeSettlesRow.domain) (apart := false) (enc := enc) (C := Try.checked) false ⟨#[], #[.agg #[.int .u64 0, .int .u64 0, .int .u64 0], .string ByteArray.empty], []⟩ 12 (by kernel_rfl) (by kernel_rfl) (by kernel_rfl) (by kernel_rfl)
theorem called (W : World) (vs : List Value) (x : args_law22_StoreSettles.T) (hx : SV.RL W (fun _ => False) (fun _ => none) (args_law22_StoreSettles.svs x) vs) (hw : args_law22_StoreSettles.wf Try.checked.prog x) :
    Calls Try.checked.prog 8 vs.toArray W fun e W' => e = .returned (.bool true) ∧ Below W.heap.size W W' := law_calls fn_law22_StoreSettles ok_law22_StoreSettles hx (plain x hw)
theorem lifted (os : Os) (started : os.Started) (H : Type) (enc : TypeId × Value → H) :
    ReturnsInHanded {} Try.checked os 8 .any (Rows.storeSettlesSpec.pre6 enc Try.prog Try.f8 Rows.storeSettlesRow.domain false) (Rows.storeSettlesSpec.post enc Try.prog Try.f8 false true false false) :=
  law_lifted (C := Try.checked) (l := args_law22_StoreSettles) (tb := 4) own started (by kernel_rfl) Try.func8
    (wit os H enc)
    rfl (told H) (by kernel_rfl) (by kernel_rfl) laidOut (by kernel_rfl) shape (by kernel_rfl)
    called
theorem over : Rows.storeSettlesRow.holds Try.pinned (OpenSpec.ofChange Rows.storeSettlesSpec) :=
  OpenClaim.holds_of_wide 8 Try.f8 rfl rfl rfl rfl rfl rfl rfl ⟨rfl, rfl, rfl, rfl, rfl⟩ rfl rfl rfl rfl rfl (by kernel_rfl) Try.func8 (by kernel_rfl)
    (of_decide_eq_true (by kernel_rfl)) (by unfold Func.isWrapper; first | (rw [if_pos (by decide +kernel)]; kernel_rfl) | (rw [if_neg (by decide +kernel)]; exact ⟨rfl, rfl⟩))
    (fun os started H enc _ => lifted os started H enc)
theorem proved : Rows.StoreSettlesSaid := over
end Go.Proofs.Ytlfedmjjjbhnpaa.storeSettles
namespace Go.Proofs.Ytlfedmjjjbhnpaa
/-- The statement. -/
theorem storeSettles_holds : Rows.StoreSettlesSaid := storeSettles.proved
#print axioms storeSettles_holds
end Go.Proofs.Ytlfedmjjjbhnpaa

