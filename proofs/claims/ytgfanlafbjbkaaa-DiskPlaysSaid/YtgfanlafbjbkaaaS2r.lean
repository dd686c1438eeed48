/-
  S2, eighteenth part: each operation, calls and all.
-/
import Derived.Test.YtgfanlafbjbkaaaS2q
set_option linter.unusedVariables false
set_option linter.unusedSimpArgs false
namespace Go.Proofs.Ytgfanlafbjbkaaa.S2
open Go

theorem compOp_call {P : Program} {o : Oper} {op : O2} (hc : compOp P o = some op) (hcall : op.isCall = true) : ∃ c, o.op = .call c ∧ compCall P c = some op := by
  unfold compOp at hc
  repeat' split at hc
  all_goals first
    | exact ⟨_, by assumption, hc⟩
    | (exfalso; first
        | (obtain ⟨z, _, rfl⟩ := map_some' hc; cases hcall)
        | (cases hc; cases hcall)
        | (cases hc))

section
variable {P : Program} {w : World} {Z : Nat → Prop} {β : Loc} {m : Mem} {ts : List SV} {a : Act} {o : Oper}

theorem OpOK.callRun {f : FuncId} {args : Array Value} {Post : Value → World → Prop} (he : execOp a.eval o = callFunc f args) (h : CallRun P f args w Post) : OpOK P o a w Post := by
  rcases h with ⟨u, w', h1, h2⟩ | ⟨h1, h2⟩
  · exact OpOK.value (he ▸ h1) h2
  · exact OpOK.enter (he ▸ h1) h2

theorem op_ok {cb : CB} (hn : cb.Nat) (hcb : cb.CallsOK P) {byRef : FuncId → CC} {op : O2} (hc : compOp P o = some op) (hT : TR w (β.away Z) β ts a) (hm : MR w Z β m) {ef : Eff}
    (h : opx cb byRef (o.dst.getD 0) op ts m some = some ef) : OpOK P o a w (PostE Z w β m ef) := by
  cases hcall : op.isCall
  · exact op_sound hc hT hm h hcall
  · obtain ⟨c, ho, hcc⟩ := compOp_call hc hcall
    unfold compCall at hcc
    repeat' split at hcc
    all_goals first
      | (exfalso; first | (cases hcc; cases hcall; done) | (cases hcc; done))
      | skip
    · -- a function by its name
      rename_i f hcal _ as has
      cases hcc
      simp only [opx] at h
      refine OpOK.callRun (f := f) (args := (c.args.toList.map a.eval).toArray) ?_ (callx2_sound hn hcb hm h (opds_R hT has))
      simp only [execOp, ho, resolve, hcal, Deferred.ofValue, Act.eval, pure_bind, invoke]
      congr 1
      apply Array.ext'
      simp
    · -- a function that a slot holds
      rename_i t hcal _ as has
      cases hcc
      simp only [opx] at h
      split at h
      · rename_i f cap hf
        have hx := hT t
        simp only [Opd.ev] at hf
        rw [hf] at hx
        simp only [SV.R] at hx
        obtain ⟨vs, hv, hvs⟩ := hx
        refine OpOK.callRun (f := f) (args := (c.args.toList.map a.eval ++ vs).toArray) ?_ (callx2_sound hn hcb hm h (SV.RL_append _ _ _ _ (opds_R hT has) hvs))
        simp only [execOp, ho, resolve, hcal, Act.eval, hv, Deferred.ofValue, pure_bind, invoke]
        congr 1
        apply Array.ext'
        simp
      · cases h
end
end Go.Proofs.Ytgfanlafbjbkaaa.S2
