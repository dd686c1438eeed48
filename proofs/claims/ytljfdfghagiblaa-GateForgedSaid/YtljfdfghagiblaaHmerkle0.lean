/- The program's functions come to their plain forms,by program. -/
import Derived.Test.YtljfdfghagiblaaGmerkle0
import Derived.Test.YtljfdfghagiblaaHideal
import Derived.Test.YtljfdfghagiblaaHwire
set_option maxRecDepth 100000
set_option maxHeartbeats 0
set_option linter.unusedVariables false
set_option linter.unusedSimpArgs false
namespace Go.Proofs.Ytljfdfghagiblaa.S2
open Go
def an_k39:Nat→LAnn:=fun n=>(find n []).getD ⟨0,[],[],[],[]⟩
noncomputable def fd_k39:FD:=fdOf Try.prog an_k39 Try.f33
def br_k39:FuncId→CC:=fun f=>⟨([54]:List Nat).contains f,(find f [(54,[0,1,2,3,4,5,6,7,8,9,10,11])]).getD [],(find f [(54,[(0,9,9,.cons .str .nil)])]).getD []⟩
def rc_k39:RC:=⟨false,[(1,9,9,.cons .str .nil)],[]⟩
theorem h_k39 (F_k28:B_k28) x1 x2 x3 x4 x5 x6 x7 x8 x9 x10 x11 {α:Type} (K:SV→Mem→Option α):callBody (table [(54,⟨args_k28,mem_k28,outs_k28,F_k28⟩)] []) br_k39 rc_k39 fd_k39 (args_k39.svs (x1,())) (mem_k39.mem ((x2,x3,x4,()),x5,x6,x7,x8,x9,x10,x11,())) K = tree_k39 F_k28 x1 x2 x3 x4 x5 x6 x7 x8 x9 x10 x11 (fun r=>outsRun outs_k39 r K):=by kernel_rfl
noncomputable def C_k39:Con:=⟨args_k39,mem_k39,outs_k39,F_k39⟩
theorem k_k39:Known Try.prog fd_k39 [(54,C_k28)] []:=known_of mixT (by kernel_rfl) ⟨ok_k28,trivial⟩ trivial
theorem fn_k39:FnOK Try.prog an_k39 33 Try.f33 fd_k39:=fnOK (by kernel_rfl) (by kernel_rfl) (by kernel_rfl)
theorem ok_k39:ConOK Try.prog 33 C_k39:=con_of k_k39 (byRef:=br_k39) fn_k39 rc_k39 args_k39 mem_k39 outs_k39 (fun a b K=>tree_k39 F_k28 a.1 b.1.1 b.1.2.1 b.1.2.2.1 b.2.1 b.2.2.1 b.2.2.2.1 b.2.2.2.2.1 b.2.2.2.2.2.1 b.2.2.2.2.2.2.1 b.2.2.2.2.2.2.2.1 K) (fun a b=>h_k39 F_k28 _ _ _ _ _ _ _ _ _ _ _ _) (fun a b K=>n_k39 F_k28 _ _ _ _ _ _ _ _ _ _ _ K)
def an_k40:Nat→LAnn:=fun n=>(find n []).getD ⟨0,[],[],[],[]⟩
noncomputable def fd_k40:FD:=fdOf Try.prog an_k40 Try.f35
def br_k40:FuncId→CC:=fun f=>⟨([54]:List Nat).contains f,(find f [(54,[0,1,2,3,4,5,6,7,8,9,10,11])]).getD [],(find f [(54,[(0,9,9,.cons .str .nil)])]).getD []⟩
def rc_k40:RC:=⟨false,[(1,9,9,.cons .str .nil)],[]⟩
theorem h_k40 (F_k72:B_k72) (F_k28:B_k28) x1 x2 x3 x4 x5 x6 x7 x8 x9 x10 x11 x12 {α:Type} (K:SV→Mem→Option α):callBody (table [(56,⟨args_k72,mem_k72,outs_k72,F_k72⟩),(54,⟨args_k28,mem_k28,outs_k28,F_k28⟩)] []) br_k40 rc_k40 fd_k40 (args_k40.svs (x1,x2,())) (mem_k40.mem ((x3,x4,x5,()),x6,x7,x8,x9,x10,x11,x12,())) K = tree_k40 F_k72 F_k28 x1 x2 x3 x4 x5 x6 x7 x8 x9 x10 x11 x12 (fun r=>outsRun outs_k40 r K):=by kernel_rfl
noncomputable def C_k40:Con:=⟨args_k40,mem_k40,outs_k40,F_k40⟩
theorem k_k40:Known Try.prog fd_k40 [(56,C_k72),(54,C_k28)] []:=known_of mixT (by kernel_rfl) ⟨ok_k72,ok_k28,trivial⟩ trivial
theorem fn_k40:FnOK Try.prog an_k40 35 Try.f35 fd_k40:=fnOK (by kernel_rfl) (by kernel_rfl) (by kernel_rfl)
theorem ok_k40:ConOK Try.prog 35 C_k40:=con_of k_k40 (byRef:=br_k40) fn_k40 rc_k40 args_k40 mem_k40 outs_k40 (fun a b K=>tree_k40 F_k72 F_k28 a.1 a.2.1 b.1.1 b.1.2.1 b.1.2.2.1 b.2.1 b.2.2.1 b.2.2.2.1 b.2.2.2.2.1 b.2.2.2.2.2.1 b.2.2.2.2.2.2.1 b.2.2.2.2.2.2.2.1 K) (fun a b=>h_k40 F_k72 F_k28 _ _ _ _ _ _ _ _ _ _ _ _ _) (fun a b K=>n_k40 F_k72 F_k28 _ _ _ _ _ _ _ _ _ _ _ _ K)
def an_k43:Nat→LAnn:=fun n=>(find n []).getD ⟨0,[],[],[],[]⟩
noncomputable def fd_k43:FD:=fdOf Try.prog an_k43 Try.f52
def br_k43:FuncId→CC:=fun f=>⟨([35]:List Nat).contains f,(find f [(35,[0,1,2,3,4,5,6,7,8,9,10,11])]).getD [],(find f [(35,[(0,9,9,.cons .str .nil)])]).getD []⟩
def rc_k43:RC:=⟨false,[(1,9,9,.cons .str .nil)],[]⟩
theorem h_k43 (F_k40:B_k40) x1 x2 x3 x4 x5 x6 x7 x8 x9 x10 x11 x12 x13 {α:Type} (K:SV→Mem→Option α):callBody (table [(35,⟨args_k40,mem_k40,outs_k40,F_k40⟩)] []) br_k43 rc_k43 fd_k43 (args_k43.svs (x1,x2,x3,())) (mem_k43.mem ((x4,x5,x6,()),x7,x8,x9,x10,x11,x12,x13,())) K = tree_k43 F_k40 x1 x2 x3 x4 x5 x6 x7 x8 x9 x10 x11 x12 x13 (fun r=>outsRun outs_k43 r K):=by kernel_rfl
noncomputable def C_k43:Con:=⟨args_k43,mem_k43,outs_k43,F_k43⟩
theorem k_k43:Known Try.prog fd_k43 [(35,C_k40)] []:=known_of mixT (by kernel_rfl) ⟨ok_k40,trivial⟩ trivial
theorem fn_k43:FnOK Try.prog an_k43 52 Try.f52 fd_k43:=fnOK (by kernel_rfl) (by kernel_rfl) (by kernel_rfl)
theorem ok_k43:ConOK Try.prog 52 C_k43:=con_of k_k43 (byRef:=br_k43) fn_k43 rc_k43 args_k43 mem_k43 outs_k43 (fun a b K=>tree_k43 F_k40 a.1 a.2.1 a.2.2.1 b.1.1 b.1.2.1 b.1.2.2.1 b.2.1 b.2.2.1 b.2.2.2.1 b.2.2.2.2.1 b.2.2.2.2.2.1 b.2.2.2.2.2.2.1 b.2.2.2.2.2.2.2.1 K) (fun a b=>h_k43 F_k40 _ _ _ _ _ _ _ _ _ _ _ _ _ _) (fun a b K=>n_k43 F_k40 _ _ _ _ _ _ _ _ _ _ _ _ _ K)
end Go.Proofs.Ytljfdfghagiblaa.S2
