/- What climbs to the root is the leaf there, with its path. -/
import Derived.Test.YtljfdfghagiblaaRows
import Derived.Test.YtljfdfghagiblaaHLMerkleBinds
import Derived.Test.YtljfdfghagiblaaPmk4
import Derived.Test.YtljfdfghagiblaaPwfU
set_option maxRecDepth 100000
set_option linter.unusedVariables false
namespace Go.Proofs.Ytljfdfghagiblaa.merkleBinds
open Go.RowKit Go.ChangeShapes Go.Proofs.Ytljfdfghagiblaa.S2
theorem own : ownKnob Try.prog.godebug = none := by kernel_rfl
theorem laidOut : laidOutB Try.prog = true := by kernel_rfl
theorem shape : skArgs Try.prog Try.f6.params.toList = some args_law06_MerkleBinds := by kernel_rfl
theorem many : Try.f6.params.toList.length = 2 := by kernel_rfl
theorem told (H : Type) (ds : List (DataW H)) (h : ds.length = Try.f6.params.toList.length) : Rows.merkleBindsSpec.fn H ds = { results := [.lit (.bool true)], args := ds } := by
  rw [many] at h
  match ds, h with
  | [d0, d1], _ => rfl
theorem plain (x : args_law06_MerkleBinds.T) (h : args_law06_MerkleBinds.wf Try.prog x) : F_law06_MerkleBinds x () = some (true, ()) := by obtain ⟨⟨d, k, ls, _⟩, ⟨i, s, p, _⟩, _⟩ := x; obtain ⟨⟨h1, h2, h3, _⟩, ⟨h4, h5, h6, _⟩, _⟩ := h; have hd := wf_Us h1; have hdl := few8' (wf_slc h1 (n := 8) (by kernel_rfl)).1; have hs := wf_Ss h3; have hsl := few16' (wf_slc h3 (n := 16) (by kernel_rfl)).1; exact Mk.MerkleBinds_plain hd hdl hs hsl (wf_S h5) (wf_Us h6) (few8w (wf_slc h6 (n := 8) (by kernel_rfl)).1)
theorem wit (os : Os) (H : Type) (enc : TypeId × Value → H) : ∃ (w : World) (tape : Tape) (i : Input), w.os = os ∧ (w.forCall tape i).Shaped Try.checked.prog ∧ i.vars = [] ∧ Input.okWide Try.checked.prog (w.forCall tape i) .any w.heap.size 6 i ∧
    Rows.merkleBindsSpec.pre6 enc Try.checked.prog Try.f6 Rows.merkleBindsRow.domain false (w.forCall tape i).memory i.args ∧ ({} : Assume).holds Try.checked.prog (lone (Frame.enter Try.checked.prog 6 i.args .normal) [] (w.forCall tape i)) :=
  ChangeSpec.witness6 (os := os) (f := 6) (fn := Try.f6) (s := Rows.merkleBindsSpec) (conds := Rows.merkleBindsRow.domain) (apart := false) (enc := enc) (C := Try.checked) false ⟨#[], #[.agg #[.slice none 0 0, .int .i64 0, .slice none 0 0], .agg #[.int .i64 0, .string ByteArray.empty, .slice none 0 0]], []⟩ 12 (by kernel_rfl) (by kernel_rfl) (by kernel_rfl) (by kernel_rfl)
theorem called (W : World) (vs : List Value) (x : args_law06_MerkleBinds.T) (hx : SV.RL W (fun _ => False) (fun _ => none) (args_law06_MerkleBinds.svs x) vs) (hw : args_law06_MerkleBinds.wf Try.checked.prog x) :
    Calls Try.checked.prog 6 vs.toArray W fun e W' => e = .returned (.bool true) ∧ Below W.heap.size W W' := law_calls fn_law06_MerkleBinds ok_law06_MerkleBinds hx (plain x hw)
theorem lifted (os : Os) (started : os.Started) (H : Type) (enc : TypeId × Value → H) :
    ReturnsInHanded {} Try.checked os 6 .any (Rows.merkleBindsSpec.pre6 enc Try.prog Try.f6 Rows.merkleBindsRow.domain false) (Rows.merkleBindsSpec.post enc Try.prog Try.f6 false true false false) :=
  law_lifted (C := Try.checked) (l := args_law06_MerkleBinds) (tb := 4) own started (by kernel_rfl) Try.func6
    (wit os H enc)
    rfl (told H) (by kernel_rfl) (by kernel_rfl) laidOut (by kernel_rfl) shape (by kernel_rfl)
    called
theorem over : Rows.merkleBindsRow.holds Try.pinned (OpenSpec.ofChange Rows.merkleBindsSpec) :=
  OpenClaim.holds_of_wide 6 Try.f6 rfl rfl rfl rfl rfl rfl rfl ⟨rfl, rfl, rfl, rfl, rfl⟩ rfl rfl rfl rfl rfl (by kernel_rfl) Try.func6 (by kernel_rfl)
    (of_decide_eq_true (by kernel_rfl)) (by unfold Func.isWrapper; first | (rw [if_pos (by decide +kernel)]; kernel_rfl) | (rw [if_neg (by decide +kernel)]; exact ⟨rfl, rfl⟩))
    (fun os started H enc _ => lifted os started H enc)
theorem proved : Rows.MerkleBindsSaid := over
end Go.Proofs.Ytljfdfghagiblaa.merkleBinds
namespace Go.Proofs.Ytljfdfghagiblaa
/-- The statement. -/
theorem merkleBinds_holds : Rows.MerkleBindsSaid := merkleBinds.proved
#print axioms merkleBinds_holds
end Go.Proofs.Ytljfdfghagiblaa

