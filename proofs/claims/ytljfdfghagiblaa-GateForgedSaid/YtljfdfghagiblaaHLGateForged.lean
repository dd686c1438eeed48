/- The program's functions come to their plain forms,by program. -/
import Derived.Test.YtljfdfghagiblaaGLGateForged
import Derived.Test.YtljfdfghagiblaaHlaw23
set_option maxRecDepth 100000
set_option maxHeartbeats 0
set_option linter.unusedVariables false
set_option linter.unusedSimpArgs false
namespace Go.Proofs.Ytljfdfghagiblaa.S2
open Go
def an_k32:Nat→LAnn:=fun n=>(find n []).getD ⟨0,[],[],[],[]⟩
noncomputable def fd_k32:FD:=fdOf Try.prog an_k32 Try.f9
def br_k32:FuncId→CC:=fun f=>⟨([21,37,39,40,41,42,43]:List Nat).contains f,(find f [(21,[0,1,2,3,4,5,6,7,8,9,10,11]),(37,[0,1,2,3,4,5,6,7,8,9,10,11]),(39,[0,1,2,3,4,5,6,7,8,9,10,11]),(40,[0,1,2,3,4,5,6,7,8,9,10,11]),(41,[0,1,2,3,4,5,6,7,8,9,10,11]),(42,[0,1,2,3,4,5,6,7,8,9,10,11]),(43,[0,1,2,3,4,5,6,7,8,9,10,11])]).getD [],(find f [(21,[(0,9,9,.cons .str .nil)]),(37,[(0,9,9,.cons .str .nil)]),(40,[(0,1,1000000,.nil),(0,2,23,.cons (.slc 9 (.cons .str .nil)) .nil),(1,9,9,.cons .str .nil)]),(42,[(0,1,1000000,.nil),(0,2,23,.cons (.slc 9 (.cons .str .nil)) .nil)])]).getD []⟩
def rc_k32:RC:=⟨true,[],[]⟩
theorem h_k32 (F_k25:B_k25) (F_k34:B_k34) (F_k33:B_k33) (F_k36:B_k36) (F_k16:B_k16) (F_k12:B_k12) (F_k35:B_k35) (F_k14:B_k14) (F_k26:B_k26) x1 x2 x3 x4 x5 x6 x7 x8 x9 x10 x11 x12 {α:Type} (K:SV→Mem→Option α):callBody (table [(13,⟨args_k25,mem_k25,outs_k25,F_k25⟩),(37,⟨args_k34,mem_k34,outs_k34,F_k34⟩),(38,⟨args_k33,mem_k33,outs_k33,F_k33⟩),(40,⟨args_k36,mem_k36,outs_k36,F_k36⟩),(39,⟨args_k16,mem_k16,outs_k16,F_k16⟩),(41,⟨args_k12,mem_k12,outs_k12,F_k12⟩),(42,⟨args_k35,mem_k35,outs_k35,F_k35⟩),(43,⟨args_k14,mem_k14,outs_k14,F_k14⟩),(21,⟨args_k26,mem_k26,outs_k26,F_k26⟩)] []) br_k32 rc_k32 fd_k32 (args_k32.svs (x1,(x2,x3,x4,x5,x6,x7,x8,x9,x10,()),(x11,x12,()),())) (mem_k32.mem ()) K = tree_k32 F_k25 F_k34 F_k33 F_k36 F_k16 F_k12 F_k35 F_k14 F_k26 x1 x2 x3 x4 x5 x6 x7 x8 x9 x10 x11 x12 (fun r=>outsRun outs_k32 r K):=by kernel_rfl
noncomputable def C_k32:Con:=⟨args_k32,mem_k32,outs_k32,F_k32⟩
theorem k_k32:Known Try.prog fd_k32 [(13,C_k25),(37,C_k34),(38,C_k33),(40,C_k36),(39,C_k16),(41,C_k12),(42,C_k35),(43,C_k14),(21,C_k26)] []:=known_of mixT (by kernel_rfl) ⟨ok_k25,ok_k34,ok_k33,ok_k36,ok_k16,ok_k12,ok_k35,ok_k14,ok_k26,trivial⟩ trivial
theorem fn_k32:FnOK Try.prog an_k32 9 Try.f9 fd_k32:=fnOK (by kernel_rfl) (by kernel_rfl) (by kernel_rfl)
theorem ok_k32:ConOK Try.prog 9 C_k32:=con_of k_k32 (byRef:=br_k32) fn_k32 rc_k32 args_k32 mem_k32 outs_k32 (fun a b K=>tree_k32 F_k25 F_k34 F_k33 F_k36 F_k16 F_k12 F_k35 F_k14 F_k26 a.1 a.2.1.1 a.2.1.2.1 a.2.1.2.2.1 a.2.1.2.2.2.1 a.2.1.2.2.2.2.1 a.2.1.2.2.2.2.2.1 a.2.1.2.2.2.2.2.2.1 a.2.1.2.2.2.2.2.2.2.1 a.2.1.2.2.2.2.2.2.2.2.1 a.2.2.1.1 a.2.2.1.2.1 K) (fun a b=>h_k32 F_k25 F_k34 F_k33 F_k36 F_k16 F_k12 F_k35 F_k14 F_k26 _ _ _ _ _ _ _ _ _ _ _ _ _) (fun a b K=>n_k32 F_k25 F_k34 F_k33 F_k36 F_k16 F_k12 F_k35 F_k14 F_k26 _ _ _ _ _ _ _ _ _ _ _ _ K)
end Go.Proofs.Ytljfdfghagiblaa.S2
