/- A leaf or a path that is turned is not taken for a sector. -/
import Derived.Test.YtljfdfghagiblaaRows
import Derived.Test.YtljfdfghagiblaaHLGateForged
import Derived.Test.YtljfdfghagiblaaPGForged
import Derived.Test.YtljfdfghagiblaaP23a
import Derived.Test.YtljfdfghagiblaaPwfU
set_option maxRecDepth 100000
set_option linter.unusedVariables false
namespace Go.Proofs.Ytljfdfghagiblaa.gateForged
open Go.RowKit Go.ChangeShapes Go.Proofs.Ytljfdfghagiblaa.S2
theorem own:ownKnob Try.prog.godebug = none:=by kernel_rfl
theorem laidOut:laidOutB Try.prog = true:=by kernel_rfl
theorem shape:skArgs Try.prog Try.f9.params.toList = some args_k32:=by kernel_rfl
theorem many:Try.f9.params.toList.length = 3:=by kernel_rfl
theorem told (H:Type) (ds:List (DataW H)) (h:ds.length = Try.f9.params.toList.length):Rows.gateForgedSpec.fn H ds = { results:=[.lit (.bool true)],args:=ds }:=by
  rw [many] at h
  match ds,h with
  | [d0,d1,d2],_=>rfl
theorem plain (x:args_k32.T) (h:args_k32.wf Try.prog x):F_k32 x () = some (true,()):=by obtain ⟨d,⟨a1,a2,a3,a4,a5,a6,a7,a8,a9,_⟩,⟨t1,t2,_⟩,_⟩:=x; obtain ⟨_,⟨_,_,_,b4,b5,b6,b7,b8,_,_⟩,⟨c1,c2,_⟩,_⟩:=h; exact Mk.GateForged_plain (x:=(a1,a2,a3,a4,a5,a6,a7,a8,a9)) ⟨wf_u64 b4,wf_u64 b5,⟨wf_S b7,wf_Us b8,Nat.le_trans (few8' (wf_slc b8 (n:=8) (by kernel_rfl)).1) (by decide)⟩,wf_S b6⟩ (wf_u64 c2)
theorem wit (os:Os) (H:Type) (enc:TypeId×Value→H):∃ (w:World) (tape:Tape) (i:Input),w.os = os∧(w.forCall tape i).Shaped Try.checked.prog∧i.vars = []∧Input.okWide Try.checked.prog (w.forCall tape i) .any w.heap.size 9 i ∧
    Rows.gateForgedSpec.pre6 enc Try.checked.prog Try.f9 Rows.gateForgedRow.domain false (w.forCall tape i).memory i.args∧({}:Assume).holds Try.checked.prog (lone (Frame.enter Try.checked.prog 9 i.args .normal) [] (w.forCall tape i)) :=
  ChangeSpec.witness6 (os:=os) (f:=9) (fn:=Try.f9) (s:=Rows.gateForgedSpec) (conds:=Rows.gateForgedRow.domain) (apart:=false) (enc:=enc) (C:=Try.checked) false ⟨#[],#[.int .i64 0,.agg #[.int .i64 0,.int .i64 0,.int .i64 0,.int .u64 0,.int .u64 0,.string ByteArray.empty,.string ByteArray.empty,.slice none 0 0,.slice none 0 0],.agg #[.int .i64 0,.int .u64 0]],[]⟩ 12 (by kernel_rfl) (by kernel_rfl) (by kernel_rfl) (by kernel_rfl)
theorem called (W : World) (vs : List Value) (x : args_k32.T) (hx : SV.RL W (fun _ => False) (fun _ => none) (args_k32.svs x) vs) (hw : args_k32.wf Try.checked.prog x) :
    Calls Try.checked.prog 9 vs.toArray W fun e W'=>e = .returned (.bool true)∧Below W.heap.size W W':=law_calls fn_k32 ok_k32 hx (plain x hw)
theorem lifted (os:Os) (started:os.Started) (H:Type) (enc:TypeId×Value→H) :
    ReturnsInHanded {} Try.checked os 9 .any (Rows.gateForgedSpec.pre6 enc Try.prog Try.f9 Rows.gateForgedRow.domain false) (Rows.gateForgedSpec.post enc Try.prog Try.f9 false true false false) :=
  law_lifted (C:=Try.checked) (l:=args_k32) (tb:=4) own started (by kernel_rfl) Try.func9
    (wit os H enc)
    rfl (told H) (by kernel_rfl) (by kernel_rfl) laidOut (by kernel_rfl) shape (by kernel_rfl)
    called
theorem over:Rows.gateForgedRow.holds Try.pinned (OpenSpec.ofChange Rows.gateForgedSpec) :=
  OpenClaim.holds_of_wide 9 Try.f9 rfl rfl rfl rfl rfl rfl rfl ⟨rfl,rfl,rfl,rfl,rfl⟩ rfl rfl rfl rfl rfl (by kernel_rfl) Try.func9 (by kernel_rfl)
    (of_decide_eq_true (by kernel_rfl)) (by unfold Func.isWrapper; first | (rw [if_pos (by decide +kernel)]; kernel_rfl) | (rw [if_neg (by decide +kernel)]; exact ⟨rfl,rfl⟩))
    (fun os started H enc _=>lifted os started H enc)
theorem proved:Rows.GateForgedSaid:=over
end Go.Proofs.Ytljfdfghagiblaa.gateForged
namespace Go.Proofs.Ytljfdfghagiblaa
theorem gateForged_holds:Rows.GateForgedSaid:=gateForged.proved
#print axioms gateForged_holds
end Go.Proofs.Ytljfdfghagiblaa
