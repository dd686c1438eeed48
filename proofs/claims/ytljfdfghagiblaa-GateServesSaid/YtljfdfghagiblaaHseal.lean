/- The program's functions come to their plain forms,by program. -/
import Derived.Test.YtljfdfghagiblaaGseal
import Derived.Test.YtljfdfghagiblaaHideal
import Derived.Test.YtljfdfghagiblaaHwire
set_option maxRecDepth 100000
set_option maxHeartbeats 0
set_option linter.unusedVariables false
set_option linter.unusedSimpArgs false
namespace Go.Proofs.Ytljfdfghagiblaa.S2
open Go
def an_k32:Nat→LAnn:=fun n=>(find n []).getD ⟨0,[],[],[],[]⟩
noncomputable def fd_k32:FD:=fdOf Try.prog an_k32 Try.f87
def br_k32:FuncId→CC:=fun f=>⟨([79]:List Nat).contains f,(find f [(79,[0,1,2,3,4,5,6,7,8,9,10,11])]).getD [],(find f [(79,[(0,9,9,.cons .str .nil)])]).getD []⟩
def rc_k32:RC:=⟨false,[(1,9,9,.cons .str .nil)],[(1,9,7)]⟩
theorem h_k32 (F_k28:B_k28) x1 x2 x3 x4 x5 x6 x7 x8 x9 x10 x11 x12 x13 x14 {α:Type} (K:SV→Mem→Option α):callBody (table [(79,⟨args_k28,mem_k28,outs_k28,F_k28⟩)] []) br_k32 rc_k32 fd_k32 (args_k32.svs (x1,x2,x3,x4,())) (mem_k32.mem ((x5,x6,x7,()),x8,x9,x10,x11,x12,x13,x14,())) K = tree_k32 F_k28 x1 x2 x3 x4 x5 x6 x7 x8 x9 x10 x11 x12 x13 x14 (fun r=>outsRun outs_k32 r K):=by kernel_rfl
noncomputable def C_k32:Con:=⟨args_k32,mem_k32,outs_k32,F_k32⟩
theorem k_k32:Known Try.prog fd_k32 [(79,C_k28)] []:=known_of mixT (by kernel_rfl) ⟨ok_k28,trivial⟩ trivial
theorem fn_k32:FnOK Try.prog an_k32 87 Try.f87 fd_k32:=fnOK (by kernel_rfl) (by kernel_rfl) (by kernel_rfl)
theorem ok_k32:ConOK Try.prog 87 C_k32:=con_of k_k32 (byRef:=br_k32) fn_k32 rc_k32 args_k32 mem_k32 outs_k32 (fun a b K=>tree_k32 F_k28 a.1 a.2.1 a.2.2.1 a.2.2.2.1 b.1.1 b.1.2.1 b.1.2.2.1 b.2.1 b.2.2.1 b.2.2.2.1 b.2.2.2.2.1 b.2.2.2.2.2.1 b.2.2.2.2.2.2.1 b.2.2.2.2.2.2.2.1 K) (fun a b=>h_k32 F_k28 _ _ _ _ _ _ _ _ _ _ _ _ _ _ _) (fun a b K=>n_k32 F_k28 _ _ _ _ _ _ _ _ _ _ _ _ _ _ K)
def an_k31:Nat→LAnn:=fun n=>(find n []).getD ⟨0,[],[],[],[]⟩
noncomputable def fd_k31:FD:=fdOf Try.prog an_k31 Try.f91
def br_k31:FuncId→CC:=fun f=>⟨([26]:List Nat).contains f,(find f [(26,[0,1,2,3,4,5,6,7,8,9,10,11])]).getD [],(find f [(26,[(0,9,9,.cons .str .nil)])]).getD []⟩
def rc_k31:RC:=⟨false,[(2,9,9,.cons .str .nil)],[]⟩
theorem h_k31 (F_k30:B_k30) x1 x2 x3 x4 x5 x6 x7 x8 x9 x10 x11 x12 x13 x14 {α:Type} (K:SV→Mem→Option α):callBody (table [(26,⟨args_k30,mem_k30,outs_k30,F_k30⟩)] []) br_k31 rc_k31 fd_k31 (args_k31.svs (x1,x2,x3,x4,())) (mem_k31.mem ((x5,x6,x7,()),x8,x9,x10,x11,x12,x13,x14,())) K = tree_k31 F_k30 x1 x2 x3 x4 x5 x6 x7 x8 x9 x10 x11 x12 x13 x14 (fun r=>outsRun outs_k31 r K):=by kernel_rfl
noncomputable def C_k31:Con:=⟨args_k31,mem_k31,outs_k31,F_k31⟩
theorem k_k31:Known Try.prog fd_k31 [(26,C_k30)] []:=known_of mixT (by kernel_rfl) ⟨ok_k30,trivial⟩ trivial
theorem fn_k31:FnOK Try.prog an_k31 91 Try.f91 fd_k31:=fnOK (by kernel_rfl) (by kernel_rfl) (by kernel_rfl)
theorem ok_k31:ConOK Try.prog 91 C_k31:=con_of k_k31 (byRef:=br_k31) fn_k31 rc_k31 args_k31 mem_k31 outs_k31 (fun a b K=>tree_k31 F_k30 a.1 a.2.1 a.2.2.1 a.2.2.2.1 b.1.1 b.1.2.1 b.1.2.2.1 b.2.1 b.2.2.1 b.2.2.2.1 b.2.2.2.2.1 b.2.2.2.2.2.1 b.2.2.2.2.2.2.1 b.2.2.2.2.2.2.2.1 K) (fun a b=>h_k31 F_k30 _ _ _ _ _ _ _ _ _ _ _ _ _ _ _) (fun a b K=>n_k31 F_k30 _ _ _ _ _ _ _ _ _ _ _ _ _ _ K)
def an_k52:Nat→LAnn:=fun n=>(find n []).getD ⟨0,[],[],[],[]⟩
noncomputable def fd_k52:FD:=fdOf Try.prog an_k52 Try.f86
def br_k52:FuncId→CC:=fun f=>⟨([]:List Nat).contains f,(find f []).getD [],(find f []).getD []⟩
def rc_k52:RC:=⟨true,[],[]⟩
theorem h_k52 (F_k73:B_k73) x1 x2 x3 x4 {α:Type} (K:SV→Mem→Option α):callBody (table [(56,⟨args_k73,mem_k73,outs_k73,F_k73⟩)] []) br_k52 rc_k52 fd_k52 (args_k52.svs (x1,x2,x3,x4,())) (mem_k52.mem ()) K = tree_k52 F_k73 x1 x2 x3 x4 (fun r=>outsRun outs_k52 r K):=by kernel_rfl
noncomputable def C_k52:Con:=⟨args_k52,mem_k52,outs_k52,F_k52⟩
theorem k_k52:Known Try.prog fd_k52 [(56,C_k73)] []:=known_of mixT (by kernel_rfl) ⟨ok_k73,trivial⟩ trivial
theorem fn_k52:FnOK Try.prog an_k52 86 Try.f86 fd_k52:=fnOK (by kernel_rfl) (by kernel_rfl) (by kernel_rfl)
theorem ok_k52:ConOK Try.prog 86 C_k52:=con_of k_k52 (byRef:=br_k52) fn_k52 rc_k52 args_k52 mem_k52 outs_k52 (fun a b K=>tree_k52 F_k73 a.1 a.2.1 a.2.2.1 a.2.2.2.1 K) (fun a b=>h_k52 F_k73 _ _ _ _ _) (fun a b K=>n_k52 F_k73 _ _ _ _ K)
def an_k47:Nat→LAnn:=fun n=>(find n []).getD ⟨0,[],[],[],[]⟩
noncomputable def fd_k47:FD:=fdOf Try.prog an_k47 Try.f88
def br_k47:FuncId→CC:=fun f=>⟨([]:List Nat).contains f,(find f []).getD [],(find f []).getD []⟩
def rc_k47:RC:=⟨true,[],[]⟩
theorem h_k47 (F_k52:B_k52) x1 x2 x3 x4 {α:Type} (K:SV→Mem→Option α):callBody (table [(86,⟨args_k52,mem_k52,outs_k52,F_k52⟩)] []) br_k47 rc_k47 fd_k47 (args_k47.svs (x1,x2,x3,x4,())) (mem_k47.mem ()) K = tree_k47 F_k52 x1 x2 x3 x4 (fun r=>outsRun outs_k47 r K):=by kernel_rfl
noncomputable def C_k47:Con:=⟨args_k47,mem_k47,outs_k47,F_k47⟩
theorem k_k47:Known Try.prog fd_k47 [(86,C_k52)] []:=known_of mixT (by kernel_rfl) ⟨ok_k52,trivial⟩ trivial
theorem fn_k47:FnOK Try.prog an_k47 88 Try.f88 fd_k47:=fnOK (by kernel_rfl) (by kernel_rfl) (by kernel_rfl)
theorem ok_k47:ConOK Try.prog 88 C_k47:=con_of k_k47 (byRef:=br_k47) fn_k47 rc_k47 args_k47 mem_k47 outs_k47 (fun a b K=>tree_k47 F_k52 a.1 a.2.1 a.2.2.1 a.2.2.2.1 K) (fun a b=>h_k47 F_k52 _ _ _ _ _) (fun a b K=>n_k47 F_k52 _ _ _ _ K)
def an_k50:Nat→LAnn:=fun n=>(find n []).getD ⟨0,[],[],[],[]⟩
noncomputable def fd_k50:FD:=fdOf Try.prog an_k50 Try.f65
def br_k50:FuncId→CC:=fun f=>⟨([]:List Nat).contains f,(find f []).getD [],(find f []).getD []⟩
def rc_k50:RC:=⟨true,[],[]⟩
theorem h_k50 (F_k52:B_k52) x1 x2 x3 x4 {α:Type} (K:SV→Mem→Option α):callBody (table [(86,⟨args_k52,mem_k52,outs_k52,F_k52⟩)] []) br_k50 rc_k50 fd_k50 (args_k50.svs ((x1,x2,x3,x4,()),())) (mem_k50.mem ()) K = tree_k50 F_k52 x1 x2 x3 x4 (fun r=>outsRun outs_k50 r K):=by kernel_rfl
noncomputable def C_k50:Con:=⟨args_k50,mem_k50,outs_k50,F_k50⟩
theorem k_k50:Known Try.prog fd_k50 [(86,C_k52)] []:=known_of mixT (by kernel_rfl) ⟨ok_k52,trivial⟩ trivial
theorem fn_k50:FnOK Try.prog an_k50 65 Try.f65 fd_k50:=fnOK (by kernel_rfl) (by kernel_rfl) (by kernel_rfl)
theorem ok_k50:ConOK Try.prog 65 C_k50:=con_of k_k50 (byRef:=br_k50) fn_k50 rc_k50 args_k50 mem_k50 outs_k50 (fun a b K=>tree_k50 F_k52 a.1.1 a.1.2.1 a.1.2.2.1 a.1.2.2.2.1 K) (fun a b=>h_k50 F_k52 _ _ _ _ _) (fun a b K=>n_k50 F_k52 _ _ _ _ K)
def an_k49:Nat→LAnn:=fun n=>(find n [(3,⟨3,[0,2,4,14,15,16],[],[0,3,6,7,8,9,16,17,18,19,20,21,22,23,24,25,26,27,28,29,30,31,32,33],[0,2,3,4]⟩)]).getD ⟨0,[],[],[],[]⟩
noncomputable def fd_k49:FD:=fdOf Try.prog an_k49 Try.f70
def br_k49:FuncId→CC:=fun f=>⟨([]:List Nat).contains f,(find f []).getD [],(find f []).getD []⟩
def rc_k49:RC:=⟨true,[],[]⟩
theorem h_k49 (F_k75:B_k75) x1 {α:Type} (K:SV→Mem→Option α):callBody ((table [(90,⟨args_k75,mem_k75,outs_k75,F_k75⟩)] []).unroll br_k49 [(3,6)]) br_k49 rc_k49 fd_k49 (args_k49.svs (x1,())) (mem_k49.mem ()) K = tree_k49 F_k75 x1 (fun r=>outsRun outs_k49 r K):=by kernel_rfl
noncomputable def C_k49:Con:=⟨args_k49,mem_k49,outs_k49,F_k49⟩
theorem k_k49:Known Try.prog fd_k49 [(90,C_k75)] []:=known_of mixT (by kernel_rfl) ⟨ok_k75,trivial⟩ trivial
theorem fn_k49:FnOK Try.prog an_k49 70 Try.f70 fd_k49:=fnOK (by kernel_rfl) (by kernel_rfl) (by kernel_rfl)
theorem ok_k49:ConOK Try.prog 70 C_k49:=con_ofU k_k49 (byRef:=br_k49) [(3,6)] fn_k49 rc_k49 args_k49 mem_k49 outs_k49 (fun a b K=>tree_k49 F_k75 a.1 K) (fun a b=>h_k49 F_k75 _ _) (fun a b K=>n_k49 F_k75 _ K)
def an_k48:Nat→LAnn:=fun n=>(find n []).getD ⟨0,[],[],[],[]⟩
noncomputable def fd_k48:FD:=fdOf Try.prog an_k48 Try.f66
def br_k48:FuncId→CC:=fun f=>⟨([79,87]:List Nat).contains f,(find f [(79,[0,1,2,3,4,5,6,7,8,9,10,11]),(87,[0,1,2,3,4,5,6,7,8,9,10,11])]).getD [],(find f [(79,[(0,9,9,.cons .str .nil)]),(87,[(0,9,9,.cons .str .nil)])]).getD []⟩
def rc_k48:RC:=⟨false,[(1,9,9,.cons .str .nil)],[(1,9,7)]⟩
theorem h_k48 (F_k28:B_k28) (F_k47:B_k47) (F_k32:B_k32) x1 x2 x3 x4 x5 x6 x7 x8 x9 x10 x11 x12 x13 x14 x15 x16 {α:Type} (K:SV→Mem→Option α):callBody (table [(79,⟨args_k28,mem_k28,outs_k28,F_k28⟩),(88,⟨args_k47,mem_k47,outs_k47,F_k47⟩),(87,⟨args_k32,mem_k32,outs_k32,F_k32⟩)] []) br_k48 rc_k48 fd_k48 (args_k48.svs (x1,x2,x3,x4,x5,x6,())) (mem_k48.mem ((x7,x8,x9,()),x10,x11,x12,x13,x14,x15,x16,())) K = tree_k48 F_k28 F_k47 F_k32 x1 x2 x3 x4 x5 x6 x7 x8 x9 x10 x11 x12 x13 x14 x15 x16 (fun r=>outsRun outs_k48 r K):=by kernel_rfl
noncomputable def C_k48:Con:=⟨args_k48,mem_k48,outs_k48,F_k48⟩
theorem k_k48:Known Try.prog fd_k48 [(79,C_k28),(88,C_k47),(87,C_k32)] []:=known_of mixT (by kernel_rfl) ⟨ok_k28,ok_k47,ok_k32,trivial⟩ trivial
theorem fn_k48:FnOK Try.prog an_k48 66 Try.f66 fd_k48:=fnOK (by kernel_rfl) (by kernel_rfl) (by kernel_rfl)
theorem ok_k48:ConOK Try.prog 66 C_k48:=con_of k_k48 (byRef:=br_k48) fn_k48 rc_k48 args_k48 mem_k48 outs_k48 (fun a b K=>tree_k48 F_k28 F_k47 F_k32 a.1 a.2.1 a.2.2.1 a.2.2.2.1 a.2.2.2.2.1 a.2.2.2.2.2.1 b.1.1 b.1.2.1 b.1.2.2.1 b.2.1 b.2.2.1 b.2.2.2.1 b.2.2.2.2.1 b.2.2.2.2.2.1 b.2.2.2.2.2.2.1 b.2.2.2.2.2.2.2.1 K) (fun a b=>h_k48 F_k28 F_k47 F_k32 _ _ _ _ _ _ _ _ _ _ _ _ _ _ _ _ _) (fun a b K=>n_k48 F_k28 F_k47 F_k32 _ _ _ _ _ _ _ _ _ _ _ _ _ _ _ _ K)
def an_k51:Nat→LAnn:=fun n=>(find n []).getD ⟨0,[],[],[],[]⟩
noncomputable def fd_k51:FD:=fdOf Try.prog an_k51 Try.f71
def br_k51:FuncId→CC:=fun f=>⟨([91]:List Nat).contains f,(find f [(91,[0,1,2,3,4,5,6,7,8,9,10,11])]).getD [],(find f [(91,[(0,9,9,.cons .str .nil)])]).getD []⟩
def rc_k51:RC:=⟨false,[(2,9,9,.cons .str .nil)],[]⟩
theorem h_k51 (F_k47:B_k47) (F_k31:B_k31) x1 x2 x3 x4 x5 x6 x7 x8 x9 x10 x11 x12 x13 x14 x15 x16 x17 {α:Type} (K:SV→Mem→Option α):callBody (table [(88,⟨args_k47,mem_k47,outs_k47,F_k47⟩),(91,⟨args_k31,mem_k31,outs_k31,F_k31⟩)] []) br_k51 rc_k51 fd_k51 (args_k51.svs (x1,x2,x3,(x4,x5,x6,x7,()),())) (mem_k51.mem ((x8,x9,x10,()),x11,x12,x13,x14,x15,x16,x17,())) K = tree_k51 F_k47 F_k31 x1 x2 x3 x4 x5 x6 x7 x8 x9 x10 x11 x12 x13 x14 x15 x16 x17 (fun r=>outsRun outs_k51 r K):=by kernel_rfl
noncomputable def C_k51:Con:=⟨args_k51,mem_k51,outs_k51,F_k51⟩
theorem k_k51:Known Try.prog fd_k51 [(88,C_k47),(91,C_k31)] []:=known_of mixT (by kernel_rfl) ⟨ok_k47,ok_k31,trivial⟩ trivial
theorem fn_k51:FnOK Try.prog an_k51 71 Try.f71 fd_k51:=fnOK (by kernel_rfl) (by kernel_rfl) (by kernel_rfl)
theorem ok_k51:ConOK Try.prog 71 C_k51:=con_of k_k51 (byRef:=br_k51) fn_k51 rc_k51 args_k51 mem_k51 outs_k51 (fun a b K=>tree_k51 F_k47 F_k31 a.1 a.2.1 a.2.2.1 a.2.2.2.1.1 a.2.2.2.1.2.1 a.2.2.2.1.2.2.1 a.2.2.2.1.2.2.2.1 b.1.1 b.1.2.1 b.1.2.2.1 b.2.1 b.2.2.1 b.2.2.2.1 b.2.2.2.2.1 b.2.2.2.2.2.1 b.2.2.2.2.2.2.1 b.2.2.2.2.2.2.2.1 K) (fun a b=>h_k51 F_k47 F_k31 _ _ _ _ _ _ _ _ _ _ _ _ _ _ _ _ _ _) (fun a b K=>n_k51 F_k47 F_k31 _ _ _ _ _ _ _ _ _ _ _ _ _ _ _ _ _ K)
end Go.Proofs.Ytljfdfghagiblaa.S2
