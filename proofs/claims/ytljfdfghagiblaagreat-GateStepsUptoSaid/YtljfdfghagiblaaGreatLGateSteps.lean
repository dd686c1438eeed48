/- What a gateway answers,whatever it is shown,is as the document says,act by act,and as much is drawn. For arguments whose values and letters are together at most 1048576. -/
import Derived.Test.YtljfdfghagiblaaGreatRows
import Derived.Test.YtljfdfghagiblaaGreatS2zu
import Derived.Test.YtljfdfghagiblaaGreatHLGateSteps
import Derived.Test.YtljfdfghagiblaaGreatPGSteps
import Derived.Test.YtljfdfghagiblaaGreatPwfZ
set_option maxRecDepth 100000
namespace Go.Proofs.YtljfdfghagiblaaGreat.gateSteps
open Go.RowKit Go.ChangeShapes Go.Proofs.YtljfdfghagiblaaGreat.S2
theorem own:ownKnob Tryz.prog.godebug=none:=by kernel_rfl
theorem laidOut:laidOutB Tryz.prog=true:=by kernel_rfl
theorem shape:Jg Tryz.prog Tryz.f3.params.toList=some i4:=by kernel_rfl
theorem many:Tryz.f3.params.toList.length=3:=by kernel_rfl
theorem told (H:Type) (ds:List (DataW H)) (h:ds.length=Tryz.f3.params.toList.length):Rows.gateStepsSpec.fn H ds={ results:=[.lit (.bool true)],args:=ds }:=by
 rw [many] at h
 match ds,h with
 | [d0,d1,d2],_=>rfl
theorem plain (x:i4.T) (h:i4.wf Tryz.prog x):VK x ()=some (true,()):=by obtain ⟨dr,d,l,_⟩:=x; obtain ⟨h1,h2,h3,_⟩:=h; exact Mk.Hx (Mk.akm h1) (Nat.le_trans (Mk.aFR (Pb h1 (n:=8) (by kernel_rfl)).1) (by decide)) (Mk.aob (Pb h3 (n:=120) (by kernel_rfl)).1) (Mk.akn (by kernel_rfl) h3)
theorem wit (os:Os) (H:Type) (enc:TypeId×Value->H):∃ (w:World) (tape:Tape) (i:Input),w.os=os/\(w.forCall tape i).Shaped Tryz.checked.prog/\i.vars=[]/\Input.okWide Tryz.checked.prog (w.forCall tape i) .any w.heap.size 3 i /\
  (Rows.OpenSpec.upto Rows.gateStepsSpec).pre6 enc Tryz.checked.prog Tryz.f3 Rows.gateStepsUptoRow.domain false (w.forCall tape i).memory i.args/\({}:Assume).holds Tryz.checked.prog (lone (Frame.enter Tryz.checked.prog 3 i.args .normal) [] (w.forCall tape i)) :=
 OpenSpec.witness (enc:=enc) (C:=Tryz.checked) (os:=os) (f:=3) (fn:=Tryz.f3) (s:=Rows.OpenSpec.upto Rows.gateStepsSpec) (k:=Rows.uptoSmall) rfl (conds:=Rows.gateStepsUptoRow.domain) (apart:=false) false ⟨#[],#[.slice none 0 0,.int .i64 0,.slice none 0 0],[]⟩ 12 (by kernel_rfl) (by kernel_rfl) (by kernel_rfl)
  (x:=([.nil,.lit (.int .i64 0),.nil],[],[])) (by kernel_rfl) (by kernel_rfl) (by kernel_rfl)
theorem called (W : World) (vs : List Value) (x : i4.T) (hx : SV.RL W (fun _ => False) (fun _ => none) (i4.svs x) vs) (hw : i4.wf Tryz.checked.prog x) :
  Calls Tryz.checked.prog 3 vs.toArray W fun e W'=>e=.returned (.bool true)/\Below W.heap.size W W':=ab0 aeX avD hx (plain x hw)
theorem lifted (os:Os) (started:os.Started) (H:Type) (enc:TypeId×Value->H) (F:Stop.Interp) :
  ReturnsInHanded {} Tryz.checked os 3 .any ((Rows.OpenSpec.upto Rows.gateStepsSpec).pre6 enc Tryz.prog Tryz.f3 Rows.gateStepsUptoRow.domain false) (((Rows.OpenSpec.upto Rows.gateStepsSpec).at F).post enc Tryz.prog Tryz.f3 false true false false) :=
 Hy (C:=Tryz.checked) (l:=i4) (tb:=4) own started (by kernel_rfl) Tryz.func3
  (wit os H enc)
  rfl (told H) (by kernel_rfl) (by kernel_rfl) laidOut (by kernel_rfl) shape (by kernel_rfl) (by kernel_rfl)
  called
theorem over:Rows.gateStepsUptoRow.holds Tryz.pinned (Rows.OpenSpec.upto Rows.gateStepsSpec) :=
 OpenClaim.holds_of_cond 3 Tryz.f3 rfl rfl rfl rfl rfl rfl rfl ⟨rfl,rfl,rfl,rfl,rfl⟩ rfl rfl rfl rfl rfl (by kernel_rfl) Tryz.func3 (by kernel_rfl)
  (of_decide_eq_true (by kernel_rfl)) (by unfold Func.isWrapper; first | (rw [if_pos (by decide +kernel)]; kernel_rfl) | (rw [if_neg (by decide +kernel)]; exact ⟨rfl,rfl⟩))
  (fun os started H enc _ F=>lifted os started H enc F)
theorem proved:Rows.GateStepsUptoSaid:=over
end Go.Proofs.YtljfdfghagiblaaGreat.gateSteps
namespace Go.Proofs.YtljfdfghagiblaaGreat
theorem gateSteps_holds:Rows.GateStepsUptoSaid:=gateSteps.proved
#print axioms gateSteps_holds
end Go.Proofs.YtljfdfghagiblaaGreat
