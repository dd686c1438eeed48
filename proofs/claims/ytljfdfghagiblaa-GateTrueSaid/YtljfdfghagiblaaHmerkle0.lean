/- The program's functions come to their plain forms,by program. -/
import Derived.Test.YtljfdfghagiblaaGmerkle0
import Derived.Test.YtljfdfghagiblaaHideal
import Derived.Test.YtljfdfghagiblaaHwire
set_option maxRecDepth 100000
set_option maxHeartbeats 0
set_option linter.unusedVariables false
set_option linter.unusedSimpArgs false
namespace Go.Proofs.Ytljfdfghagiblaa.S2
open Go
def an_k45:Nat→LAnn:=fun n=>(find n []).getD ⟨0,[],[],[],[]⟩
noncomputable def fd_k45:FD:=fdOf Try.prog an_k45 Try.f33
def br_k45:FuncId→CC:=fun f=>⟨([54]:List Nat).contains f,(find f [(54,[0,1,2,3,4,5,6,7,8,9,10,11])]).getD [],(find f [(54,[(0,9,9,.cons .str .nil)])]).getD []⟩
def rc_k45:RC:=⟨false,[(1,9,9,.cons .str .nil)],[]⟩
theorem h_k45 (F_k31:B_k31) x1 x2 x3 x4 x5 x6 x7 x8 x9 x10 x11 {α:Type} (K:SV→Mem→Option α):callBody (table [(54,⟨args_k31,mem_k31,outs_k31,F_k31⟩)] []) br_k45 rc_k45 fd_k45 (args_k45.svs (x1,())) (mem_k45.mem ((x2,x3,x4,()),x5,x6,x7,x8,x9,x10,x11,())) K = tree_k45 F_k31 x1 x2 x3 x4 x5 x6 x7 x8 x9 x10 x11 (fun r=>outsRun outs_k45 r K):=by kernel_rfl
noncomputable def C_k45:Con:=⟨args_k45,mem_k45,outs_k45,F_k45⟩
theorem k_k45:Known Try.prog fd_k45 [(54,C_k31)] []:=known_of mixT (by kernel_rfl) ⟨ok_k31,trivial⟩ trivial
theorem fn_k45:FnOK Try.prog an_k45 33 Try.f33 fd_k45:=fnOK (by kernel_rfl) (by kernel_rfl) (by kernel_rfl)
theorem ok_k45:ConOK Try.prog 33 C_k45:=con_of k_k45 (byRef:=br_k45) fn_k45 rc_k45 args_k45 mem_k45 outs_k45 (fun a b K=>tree_k45 F_k31 a.1 b.1.1 b.1.2.1 b.1.2.2.1 b.2.1 b.2.2.1 b.2.2.2.1 b.2.2.2.2.1 b.2.2.2.2.2.1 b.2.2.2.2.2.2.1 b.2.2.2.2.2.2.2.1 K) (fun a b=>h_k45 F_k31 _ _ _ _ _ _ _ _ _ _ _ _) (fun a b K=>n_k45 F_k31 _ _ _ _ _ _ _ _ _ _ _ K)
def an_k46:Nat→LAnn:=fun n=>(find n []).getD ⟨0,[],[],[],[]⟩
noncomputable def fd_k46:FD:=fdOf Try.prog an_k46 Try.f35
def br_k46:FuncId→CC:=fun f=>⟨([54]:List Nat).contains f,(find f [(54,[0,1,2,3,4,5,6,7,8,9,10,11])]).getD [],(find f [(54,[(0,9,9,.cons .str .nil)])]).getD []⟩
def rc_k46:RC:=⟨false,[(1,9,9,.cons .str .nil)],[]⟩
theorem h_k46 (F_k78:B_k78) (F_k31:B_k31) x1 x2 x3 x4 x5 x6 x7 x8 x9 x10 x11 x12 {α:Type} (K:SV→Mem→Option α):callBody (table [(56,⟨args_k78,mem_k78,outs_k78,F_k78⟩),(54,⟨args_k31,mem_k31,outs_k31,F_k31⟩)] []) br_k46 rc_k46 fd_k46 (args_k46.svs (x1,x2,())) (mem_k46.mem ((x3,x4,x5,()),x6,x7,x8,x9,x10,x11,x12,())) K = tree_k46 F_k78 F_k31 x1 x2 x3 x4 x5 x6 x7 x8 x9 x10 x11 x12 (fun r=>outsRun outs_k46 r K):=by kernel_rfl
noncomputable def C_k46:Con:=⟨args_k46,mem_k46,outs_k46,F_k46⟩
theorem k_k46:Known Try.prog fd_k46 [(56,C_k78),(54,C_k31)] []:=known_of mixT (by kernel_rfl) ⟨ok_k78,ok_k31,trivial⟩ trivial
theorem fn_k46:FnOK Try.prog an_k46 35 Try.f35 fd_k46:=fnOK (by kernel_rfl) (by kernel_rfl) (by kernel_rfl)
theorem ok_k46:ConOK Try.prog 35 C_k46:=con_of k_k46 (byRef:=br_k46) fn_k46 rc_k46 args_k46 mem_k46 outs_k46 (fun a b K=>tree_k46 F_k78 F_k31 a.1 a.2.1 b.1.1 b.1.2.1 b.1.2.2.1 b.2.1 b.2.2.1 b.2.2.2.1 b.2.2.2.2.1 b.2.2.2.2.2.1 b.2.2.2.2.2.2.1 b.2.2.2.2.2.2.2.1 K) (fun a b=>h_k46 F_k78 F_k31 _ _ _ _ _ _ _ _ _ _ _ _ _) (fun a b K=>n_k46 F_k78 F_k31 _ _ _ _ _ _ _ _ _ _ _ _ K)
def an_k49:Nat→LAnn:=fun n=>(find n []).getD ⟨0,[],[],[],[]⟩
noncomputable def fd_k49:FD:=fdOf Try.prog an_k49 Try.f52
def br_k49:FuncId→CC:=fun f=>⟨([35]:List Nat).contains f,(find f [(35,[0,1,2,3,4,5,6,7,8,9,10,11])]).getD [],(find f [(35,[(0,9,9,.cons .str .nil)])]).getD []⟩
def rc_k49:RC:=⟨false,[(1,9,9,.cons .str .nil)],[]⟩
theorem h_k49 (F_k46:B_k46) x1 x2 x3 x4 x5 x6 x7 x8 x9 x10 x11 x12 x13 {α:Type} (K:SV→Mem→Option α):callBody (table [(35,⟨args_k46,mem_k46,outs_k46,F_k46⟩)] []) br_k49 rc_k49 fd_k49 (args_k49.svs (x1,x2,x3,())) (mem_k49.mem ((x4,x5,x6,()),x7,x8,x9,x10,x11,x12,x13,())) K = tree_k49 F_k46 x1 x2 x3 x4 x5 x6 x7 x8 x9 x10 x11 x12 x13 (fun r=>outsRun outs_k49 r K):=by kernel_rfl
noncomputable def C_k49:Con:=⟨args_k49,mem_k49,outs_k49,F_k49⟩
theorem k_k49:Known Try.prog fd_k49 [(35,C_k46)] []:=known_of mixT (by kernel_rfl) ⟨ok_k46,trivial⟩ trivial
theorem fn_k49:FnOK Try.prog an_k49 52 Try.f52 fd_k49:=fnOK (by kernel_rfl) (by kernel_rfl) (by kernel_rfl)
theorem ok_k49:ConOK Try.prog 52 C_k49:=con_of k_k49 (byRef:=br_k49) fn_k49 rc_k49 args_k49 mem_k49 outs_k49 (fun a b K=>tree_k49 F_k46 a.1 a.2.1 a.2.2.1 b.1.1 b.1.2.1 b.1.2.2.1 b.2.1 b.2.2.1 b.2.2.2.1 b.2.2.2.2.1 b.2.2.2.2.2.1 b.2.2.2.2.2.2.1 b.2.2.2.2.2.2.2.1 K) (fun a b=>h_k49 F_k46 _ _ _ _ _ _ _ _ _ _ _ _ _ _) (fun a b K=>n_k49 F_k46 _ _ _ _ _ _ _ _ _ _ _ _ _ K)
end Go.Proofs.Ytljfdfghagiblaa.S2
