/- The tree of any leaves is as the document says. -/
import Derived.Test.YtljfdfghagiblaaRows
import Derived.Test.YtljfdfghagiblaaHLMerkleBuilds
import Derived.Test.YtljfdfghagiblaaPmk6
import Derived.Test.YtljfdfghagiblaaPwfU
set_option maxRecDepth 100000
set_option linter.unusedVariables false
namespace Go.Proofs.Ytljfdfghagiblaa.merkleBuilds
open Go.RowKit Go.ChangeShapes Go.Proofs.Ytljfdfghagiblaa.S2
theorem own : ownKnob Try.prog.godebug = none := by kernel_rfl
theorem laidOut : laidOutB Try.prog = true := by kernel_rfl
theorem shape : skArgs Try.prog Try.f3.params.toList = some args_law06_MerkleBuilds := by kernel_rfl
theorem many : Try.f3.params.toList.length = 1 := by kernel_rfl
theorem told (H : Type) (ds : List (DataW H)) (h : ds.length = Try.f3.params.toList.length) : Rows.merkleBuildsSpec.fn H ds = { results := [.lit (.bool true)], args := ds } := by
  rw [many] at h
  match ds, h with
  | [d0], _ => rfl
theorem plain (x : args_law06_MerkleBuilds.T) (h : args_law06_MerkleBuilds.wf Try.prog x) : F_law06_MerkleBuilds x () = some (true, ()) := by obtain ⟨⟨d, k, ls, _⟩, _⟩ := x; obtain ⟨⟨h1, h2, h3, _⟩, _⟩ := h; have hd := wf_Us h1; have hdl := few8' (wf_slc h1 (n := 8) (by kernel_rfl)).1; have hs := wf_Ss h3; have hsl := few16' (wf_slc h3 (n := 16) (by kernel_rfl)).1; exact Mk.MerkleBuilds_plain hd hdl hs hsl
theorem wit (os : Os) (H : Type) (enc : TypeId × Value → H) : ∃ (w : World) (tape : Tape) (i : Input), w.os = os ∧ (w.forCall tape i).Shaped Try.checked.prog ∧ i.vars = [] ∧ Input.okWide Try.checked.prog (w.forCall tape i) .any w.heap.size 3 i ∧
    Rows.merkleBuildsSpec.pre6 enc Try.checked.prog Try.f3 Rows.merkleBuildsRow.domain false (w.forCall tape i).memory i.args ∧ ({} : Assume).holds Try.checked.prog (lone (Frame.enter Try.checked.prog 3 i.args .normal) [] (w.forCall tape i)) :=
  ChangeSpec.witness6 (os := os) (f := 3) (fn := Try.f3) (s := Rows.merkleBuildsSpec) (conds := Rows.merkleBuildsRow.domain) (apart := false) (enc := enc) (C := Try.checked) false ⟨#[], #[.agg #[.slice none 0 0, .int .i64 0, .slice none 0 0]], []⟩ 12 (by kernel_rfl) (by kernel_rfl) (by kernel_rfl) (by kernel_rfl)
theorem called (W : World) (vs : List Value) (x : args_law06_MerkleBuilds.T) (hx : SV.RL W (fun _ => False) (fun _ => none) (args_law06_MerkleBuilds.svs x) vs) (hw : args_law06_MerkleBuilds.wf Try.checked.prog x) :
    Calls Try.checked.prog 3 vs.toArray W fun e W' => e = .returned (.bool true) ∧ Below W.heap.size W W' := law_calls fn_law06_MerkleBuilds ok_law06_MerkleBuilds hx (plain x hw)
theorem lifted (os : Os) (started : os.Started) (H : Type) (enc : TypeId × Value → H) :
    ReturnsInHanded {} Try.checked os 3 .any (Rows.merkleBuildsSpec.pre6 enc Try.prog Try.f3 Rows.merkleBuildsRow.domain false) (Rows.merkleBuildsSpec.post enc Try.prog Try.f3 false true false false) :=
  law_lifted (C := Try.checked) (l := args_law06_MerkleBuilds) (tb := 4) own started (by kernel_rfl) Try.func3
    (wit os H enc)
    rfl (told H) (by kernel_rfl) (by kernel_rfl) laidOut (by kernel_rfl) shape (by kernel_rfl)
    called
theorem over : Rows.merkleBuildsRow.holds Try.pinned (OpenSpec.ofChange Rows.merkleBuildsSpec) :=
  OpenClaim.holds_of_wide 3 Try.f3 rfl rfl rfl rfl rfl rfl rfl ⟨rfl, rfl, rfl, rfl, rfl⟩ rfl rfl rfl rfl rfl (by kernel_rfl) Try.func3 (by kernel_rfl)
    (of_decide_eq_true (by kernel_rfl)) (by unfold Func.isWrapper; first | (rw [if_pos (by decide +kernel)]; kernel_rfl) | (rw [if_neg (by decide +kernel)]; exact ⟨rfl, rfl⟩))
    (fun os started H enc _ => lifted os started H enc)
theorem proved : Rows.MerkleBuildsSaid := over
end Go.Proofs.Ytljfdfghagiblaa.merkleBuilds
namespace Go.Proofs.Ytljfdfghagiblaa
/-- The statement. -/
theorem merkleBuilds_holds : Rows.MerkleBuildsSaid := merkleBuilds.proved
#print axioms merkleBuilds_holds
end Go.Proofs.Ytljfdfghagiblaa

