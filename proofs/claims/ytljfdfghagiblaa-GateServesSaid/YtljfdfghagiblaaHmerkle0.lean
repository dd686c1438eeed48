/- The program's functions come to their plain forms,by program. -/
import Derived.Test.YtljfdfghagiblaaGmerkle0
import Derived.Test.YtljfdfghagiblaaHideal
import Derived.Test.YtljfdfghagiblaaHwire
set_option maxRecDepth 100000
set_option maxHeartbeats 0
set_option linter.unusedVariables false
set_option linter.unusedSimpArgs false
namespace Go.Proofs.Ytljfdfghagiblaa.S2
open Go
def an_k40:Nat→LAnn:=fun n=>(find n []).getD ⟨0,[],[],[],[]⟩
noncomputable def fd_k40:FD:=fdOf Try.prog an_k40 Try.f33
def br_k40:FuncId→CC:=fun f=>⟨([54]:List Nat).contains f,(find f [(54,[0,1,2,3,4,5,6,7,8,9,10,11])]).getD [],(find f [(54,[(0,9,9,.cons .str .nil)])]).getD []⟩
def rc_k40:RC:=⟨false,[(1,9,9,.cons .str .nil)],[]⟩
theorem h_k40 (F_k29:B_k29) x1 x2 x3 x4 x5 x6 x7 x8 x9 x10 x11 {α:Type} (K:SV→Mem→Option α):callBody (table [(54,⟨args_k29,mem_k29,outs_k29,F_k29⟩)] []) br_k40 rc_k40 fd_k40 (args_k40.svs (x1,())) (mem_k40.mem ((x2,x3,x4,()),x5,x6,x7,x8,x9,x10,x11,())) K = tree_k40 F_k29 x1 x2 x3 x4 x5 x6 x7 x8 x9 x10 x11 (fun r=>outsRun outs_k40 r K):=by kernel_rfl
noncomputable def C_k40:Con:=⟨args_k40,mem_k40,outs_k40,F_k40⟩
theorem k_k40:Known Try.prog fd_k40 [(54,C_k29)] []:=known_of mixT (by kernel_rfl) ⟨ok_k29,trivial⟩ trivial
theorem fn_k40:FnOK Try.prog an_k40 33 Try.f33 fd_k40:=fnOK (by kernel_rfl) (by kernel_rfl) (by kernel_rfl)
theorem ok_k40:ConOK Try.prog 33 C_k40:=con_of k_k40 (byRef:=br_k40) fn_k40 rc_k40 args_k40 mem_k40 outs_k40 (fun a b K=>tree_k40 F_k29 a.1 b.1.1 b.1.2.1 b.1.2.2.1 b.2.1 b.2.2.1 b.2.2.2.1 b.2.2.2.2.1 b.2.2.2.2.2.1 b.2.2.2.2.2.2.1 b.2.2.2.2.2.2.2.1 K) (fun a b=>h_k40 F_k29 _ _ _ _ _ _ _ _ _ _ _ _) (fun a b K=>n_k40 F_k29 _ _ _ _ _ _ _ _ _ _ _ K)
def an_k41:Nat→LAnn:=fun n=>(find n []).getD ⟨0,[],[],[],[]⟩
noncomputable def fd_k41:FD:=fdOf Try.prog an_k41 Try.f35
def br_k41:FuncId→CC:=fun f=>⟨([54]:List Nat).contains f,(find f [(54,[0,1,2,3,4,5,6,7,8,9,10,11])]).getD [],(find f [(54,[(0,9,9,.cons .str .nil)])]).getD []⟩
def rc_k41:RC:=⟨false,[(1,9,9,.cons .str .nil)],[]⟩
theorem h_k41 (F_k73:B_k73) (F_k29:B_k29) x1 x2 x3 x4 x5 x6 x7 x8 x9 x10 x11 x12 {α:Type} (K:SV→Mem→Option α):callBody (table [(56,⟨args_k73,mem_k73,outs_k73,F_k73⟩),(54,⟨args_k29,mem_k29,outs_k29,F_k29⟩)] []) br_k41 rc_k41 fd_k41 (args_k41.svs (x1,x2,())) (mem_k41.mem ((x3,x4,x5,()),x6,x7,x8,x9,x10,x11,x12,())) K = tree_k41 F_k73 F_k29 x1 x2 x3 x4 x5 x6 x7 x8 x9 x10 x11 x12 (fun r=>outsRun outs_k41 r K):=by kernel_rfl
noncomputable def C_k41:Con:=⟨args_k41,mem_k41,outs_k41,F_k41⟩
theorem k_k41:Known Try.prog fd_k41 [(56,C_k73),(54,C_k29)] []:=known_of mixT (by kernel_rfl) ⟨ok_k73,ok_k29,trivial⟩ trivial
theorem fn_k41:FnOK Try.prog an_k41 35 Try.f35 fd_k41:=fnOK (by kernel_rfl) (by kernel_rfl) (by kernel_rfl)
theorem ok_k41:ConOK Try.prog 35 C_k41:=con_of k_k41 (byRef:=br_k41) fn_k41 rc_k41 args_k41 mem_k41 outs_k41 (fun a b K=>tree_k41 F_k73 F_k29 a.1 a.2.1 b.1.1 b.1.2.1 b.1.2.2.1 b.2.1 b.2.2.1 b.2.2.2.1 b.2.2.2.2.1 b.2.2.2.2.2.1 b.2.2.2.2.2.2.1 b.2.2.2.2.2.2.2.1 K) (fun a b=>h_k41 F_k73 F_k29 _ _ _ _ _ _ _ _ _ _ _ _ _) (fun a b K=>n_k41 F_k73 F_k29 _ _ _ _ _ _ _ _ _ _ _ _ K)
def an_k44:Nat→LAnn:=fun n=>(find n []).getD ⟨0,[],[],[],[]⟩
noncomputable def fd_k44:FD:=fdOf Try.prog an_k44 Try.f52
def br_k44:FuncId→CC:=fun f=>⟨([35]:List Nat).contains f,(find f [(35,[0,1,2,3,4,5,6,7,8,9,10,11])]).getD [],(find f [(35,[(0,9,9,.cons .str .nil)])]).getD []⟩
def rc_k44:RC:=⟨false,[(1,9,9,.cons .str .nil)],[]⟩
theorem h_k44 (F_k41:B_k41) x1 x2 x3 x4 x5 x6 x7 x8 x9 x10 x11 x12 x13 {α:Type} (K:SV→Mem→Option α):callBody (table [(35,⟨args_k41,mem_k41,outs_k41,F_k41⟩)] []) br_k44 rc_k44 fd_k44 (args_k44.svs (x1,x2,x3,())) (mem_k44.mem ((x4,x5,x6,()),x7,x8,x9,x10,x11,x12,x13,())) K = tree_k44 F_k41 x1 x2 x3 x4 x5 x6 x7 x8 x9 x10 x11 x12 x13 (fun r=>outsRun outs_k44 r K):=by kernel_rfl
noncomputable def C_k44:Con:=⟨args_k44,mem_k44,outs_k44,F_k44⟩
theorem k_k44:Known Try.prog fd_k44 [(35,C_k41)] []:=known_of mixT (by kernel_rfl) ⟨ok_k41,trivial⟩ trivial
theorem fn_k44:FnOK Try.prog an_k44 52 Try.f52 fd_k44:=fnOK (by kernel_rfl) (by kernel_rfl) (by kernel_rfl)
theorem ok_k44:ConOK Try.prog 52 C_k44:=con_of k_k44 (byRef:=br_k44) fn_k44 rc_k44 args_k44 mem_k44 outs_k44 (fun a b K=>tree_k44 F_k41 a.1 a.2.1 a.2.2.1 b.1.1 b.1.2.1 b.1.2.2.1 b.2.1 b.2.2.1 b.2.2.2.1 b.2.2.2.2.1 b.2.2.2.2.2.1 b.2.2.2.2.2.2.1 b.2.2.2.2.2.2.2.1 K) (fun a b=>h_k44 F_k41 _ _ _ _ _ _ _ _ _ _ _ _ _ _) (fun a b K=>n_k44 F_k41 _ _ _ _ _ _ _ _ _ _ _ _ _ K)
end Go.Proofs.Ytljfdfghagiblaa.S2
