/- The program's functions come to their plain forms,by program. -/
import Derived.Test.YtljfdfghagiblaaGseal
import Derived.Test.YtljfdfghagiblaaHideal
import Derived.Test.YtljfdfghagiblaaHwire
set_option maxRecDepth 100000
set_option maxHeartbeats 0
set_option linter.unusedVariables false
set_option linter.unusedSimpArgs false
namespace Go.Proofs.Ytljfdfghagiblaa.S2
open Go
def an_k34:Nat→LAnn:=fun n=>(find n []).getD ⟨0,[],[],[],[]⟩
noncomputable def fd_k34:FD:=fdOf Try.prog an_k34 Try.f87
def br_k34:FuncId→CC:=fun f=>⟨([79]:List Nat).contains f,(find f [(79,[0,1,2,3,4,5,6,7,8,9,10,11])]).getD [],(find f [(79,[(0,9,9,.cons .str .nil)])]).getD []⟩
def rc_k34:RC:=⟨false,[(1,9,9,.cons .str .nil)],[(1,9,7)]⟩
theorem h_k34 (F_k30:B_k30) x1 x2 x3 x4 x5 x6 x7 x8 x9 x10 x11 x12 x13 x14 {α:Type} (K:SV→Mem→Option α):callBody (table [(79,⟨args_k30,mem_k30,outs_k30,F_k30⟩)] []) br_k34 rc_k34 fd_k34 (args_k34.svs (x1,x2,x3,x4,())) (mem_k34.mem ((x5,x6,x7,()),x8,x9,x10,x11,x12,x13,x14,())) K = tree_k34 F_k30 x1 x2 x3 x4 x5 x6 x7 x8 x9 x10 x11 x12 x13 x14 (fun r=>outsRun outs_k34 r K):=by kernel_rfl
noncomputable def C_k34:Con:=⟨args_k34,mem_k34,outs_k34,F_k34⟩
theorem k_k34:Known Try.prog fd_k34 [(79,C_k30)] []:=known_of mixT (by kernel_rfl) ⟨ok_k30,trivial⟩ trivial
theorem fn_k34:FnOK Try.prog an_k34 87 Try.f87 fd_k34:=fnOK (by kernel_rfl) (by kernel_rfl) (by kernel_rfl)
theorem ok_k34:ConOK Try.prog 87 C_k34:=con_of k_k34 (byRef:=br_k34) fn_k34 rc_k34 args_k34 mem_k34 outs_k34 (fun a b K=>tree_k34 F_k30 a.1 a.2.1 a.2.2.1 a.2.2.2.1 b.1.1 b.1.2.1 b.1.2.2.1 b.2.1 b.2.2.1 b.2.2.2.1 b.2.2.2.2.1 b.2.2.2.2.2.1 b.2.2.2.2.2.2.1 b.2.2.2.2.2.2.2.1 K) (fun a b=>h_k34 F_k30 _ _ _ _ _ _ _ _ _ _ _ _ _ _ _) (fun a b K=>n_k34 F_k30 _ _ _ _ _ _ _ _ _ _ _ _ _ _ K)
def an_k33:Nat→LAnn:=fun n=>(find n []).getD ⟨0,[],[],[],[]⟩
noncomputable def fd_k33:FD:=fdOf Try.prog an_k33 Try.f91
def br_k33:FuncId→CC:=fun f=>⟨([26]:List Nat).contains f,(find f [(26,[0,1,2,3,4,5,6,7,8,9,10,11])]).getD [],(find f [(26,[(0,9,9,.cons .str .nil)])]).getD []⟩
def rc_k33:RC:=⟨false,[(2,9,9,.cons .str .nil)],[]⟩
theorem h_k33 (F_k32:B_k32) x1 x2 x3 x4 x5 x6 x7 x8 x9 x10 x11 x12 x13 x14 {α:Type} (K:SV→Mem→Option α):callBody (table [(26,⟨args_k32,mem_k32,outs_k32,F_k32⟩)] []) br_k33 rc_k33 fd_k33 (args_k33.svs (x1,x2,x3,x4,())) (mem_k33.mem ((x5,x6,x7,()),x8,x9,x10,x11,x12,x13,x14,())) K = tree_k33 F_k32 x1 x2 x3 x4 x5 x6 x7 x8 x9 x10 x11 x12 x13 x14 (fun r=>outsRun outs_k33 r K):=by kernel_rfl
noncomputable def C_k33:Con:=⟨args_k33,mem_k33,outs_k33,F_k33⟩
theorem k_k33:Known Try.prog fd_k33 [(26,C_k32)] []:=known_of mixT (by kernel_rfl) ⟨ok_k32,trivial⟩ trivial
theorem fn_k33:FnOK Try.prog an_k33 91 Try.f91 fd_k33:=fnOK (by kernel_rfl) (by kernel_rfl) (by kernel_rfl)
theorem ok_k33:ConOK Try.prog 91 C_k33:=con_of k_k33 (byRef:=br_k33) fn_k33 rc_k33 args_k33 mem_k33 outs_k33 (fun a b K=>tree_k33 F_k32 a.1 a.2.1 a.2.2.1 a.2.2.2.1 b.1.1 b.1.2.1 b.1.2.2.1 b.2.1 b.2.2.1 b.2.2.2.1 b.2.2.2.2.1 b.2.2.2.2.2.1 b.2.2.2.2.2.2.1 b.2.2.2.2.2.2.2.1 K) (fun a b=>h_k33 F_k32 _ _ _ _ _ _ _ _ _ _ _ _ _ _ _) (fun a b K=>n_k33 F_k32 _ _ _ _ _ _ _ _ _ _ _ _ _ _ K)
def an_k57:Nat→LAnn:=fun n=>(find n []).getD ⟨0,[],[],[],[]⟩
noncomputable def fd_k57:FD:=fdOf Try.prog an_k57 Try.f86
def br_k57:FuncId→CC:=fun f=>⟨([]:List Nat).contains f,(find f []).getD [],(find f []).getD []⟩
def rc_k57:RC:=⟨true,[],[]⟩
theorem h_k57 (F_k78:B_k78) x1 x2 x3 x4 {α:Type} (K:SV→Mem→Option α):callBody (table [(56,⟨args_k78,mem_k78,outs_k78,F_k78⟩)] []) br_k57 rc_k57 fd_k57 (args_k57.svs (x1,x2,x3,x4,())) (mem_k57.mem ()) K = tree_k57 F_k78 x1 x2 x3 x4 (fun r=>outsRun outs_k57 r K):=by kernel_rfl
noncomputable def C_k57:Con:=⟨args_k57,mem_k57,outs_k57,F_k57⟩
theorem k_k57:Known Try.prog fd_k57 [(56,C_k78)] []:=known_of mixT (by kernel_rfl) ⟨ok_k78,trivial⟩ trivial
theorem fn_k57:FnOK Try.prog an_k57 86 Try.f86 fd_k57:=fnOK (by kernel_rfl) (by kernel_rfl) (by kernel_rfl)
theorem ok_k57:ConOK Try.prog 86 C_k57:=con_of k_k57 (byRef:=br_k57) fn_k57 rc_k57 args_k57 mem_k57 outs_k57 (fun a b K=>tree_k57 F_k78 a.1 a.2.1 a.2.2.1 a.2.2.2.1 K) (fun a b=>h_k57 F_k78 _ _ _ _ _) (fun a b K=>n_k57 F_k78 _ _ _ _ K)
def an_k52:Nat→LAnn:=fun n=>(find n []).getD ⟨0,[],[],[],[]⟩
noncomputable def fd_k52:FD:=fdOf Try.prog an_k52 Try.f88
def br_k52:FuncId→CC:=fun f=>⟨([]:List Nat).contains f,(find f []).getD [],(find f []).getD []⟩
def rc_k52:RC:=⟨true,[],[]⟩
theorem h_k52 (F_k57:B_k57) x1 x2 x3 x4 {α:Type} (K:SV→Mem→Option α):callBody (table [(86,⟨args_k57,mem_k57,outs_k57,F_k57⟩)] []) br_k52 rc_k52 fd_k52 (args_k52.svs (x1,x2,x3,x4,())) (mem_k52.mem ()) K = tree_k52 F_k57 x1 x2 x3 x4 (fun r=>outsRun outs_k52 r K):=by kernel_rfl
noncomputable def C_k52:Con:=⟨args_k52,mem_k52,outs_k52,F_k52⟩
theorem k_k52:Known Try.prog fd_k52 [(86,C_k57)] []:=known_of mixT (by kernel_rfl) ⟨ok_k57,trivial⟩ trivial
theorem fn_k52:FnOK Try.prog an_k52 88 Try.f88 fd_k52:=fnOK (by kernel_rfl) (by kernel_rfl) (by kernel_rfl)
theorem ok_k52:ConOK Try.prog 88 C_k52:=con_of k_k52 (byRef:=br_k52) fn_k52 rc_k52 args_k52 mem_k52 outs_k52 (fun a b K=>tree_k52 F_k57 a.1 a.2.1 a.2.2.1 a.2.2.2.1 K) (fun a b=>h_k52 F_k57 _ _ _ _ _) (fun a b K=>n_k52 F_k57 _ _ _ _ K)
def an_k55:Nat→LAnn:=fun n=>(find n []).getD ⟨0,[],[],[],[]⟩
noncomputable def fd_k55:FD:=fdOf Try.prog an_k55 Try.f65
def br_k55:FuncId→CC:=fun f=>⟨([]:List Nat).contains f,(find f []).getD [],(find f []).getD []⟩
def rc_k55:RC:=⟨true,[],[]⟩
theorem h_k55 (F_k57:B_k57) x1 x2 x3 x4 {α:Type} (K:SV→Mem→Option α):callBody (table [(86,⟨args_k57,mem_k57,outs_k57,F_k57⟩)] []) br_k55 rc_k55 fd_k55 (args_k55.svs ((x1,x2,x3,x4,()),())) (mem_k55.mem ()) K = tree_k55 F_k57 x1 x2 x3 x4 (fun r=>outsRun outs_k55 r K):=by kernel_rfl
noncomputable def C_k55:Con:=⟨args_k55,mem_k55,outs_k55,F_k55⟩
theorem k_k55:Known Try.prog fd_k55 [(86,C_k57)] []:=known_of mixT (by kernel_rfl) ⟨ok_k57,trivial⟩ trivial
theorem fn_k55:FnOK Try.prog an_k55 65 Try.f65 fd_k55:=fnOK (by kernel_rfl) (by kernel_rfl) (by kernel_rfl)
theorem ok_k55:ConOK Try.prog 65 C_k55:=con_of k_k55 (byRef:=br_k55) fn_k55 rc_k55 args_k55 mem_k55 outs_k55 (fun a b K=>tree_k55 F_k57 a.1.1 a.1.2.1 a.1.2.2.1 a.1.2.2.2.1 K) (fun a b=>h_k55 F_k57 _ _ _ _ _) (fun a b K=>n_k55 F_k57 _ _ _ _ K)
def an_k54:Nat→LAnn:=fun n=>(find n [(3,⟨3,[0,2,4,14,15,16],[],[0,3,6,7,8,9,16,17,18,19,20,21,22,23,24,25,26,27,28,29,30,31,32,33],[0,2,3,4]⟩)]).getD ⟨0,[],[],[],[]⟩
noncomputable def fd_k54:FD:=fdOf Try.prog an_k54 Try.f70
def br_k54:FuncId→CC:=fun f=>⟨([]:List Nat).contains f,(find f []).getD [],(find f []).getD []⟩
def rc_k54:RC:=⟨true,[],[]⟩
theorem h_k54 (F_k80:B_k80) x1 {α:Type} (K:SV→Mem→Option α):callBody ((table [(90,⟨args_k80,mem_k80,outs_k80,F_k80⟩)] []).unroll br_k54 [(3,6)]) br_k54 rc_k54 fd_k54 (args_k54.svs (x1,())) (mem_k54.mem ()) K = tree_k54 F_k80 x1 (fun r=>outsRun outs_k54 r K):=by kernel_rfl
noncomputable def C_k54:Con:=⟨args_k54,mem_k54,outs_k54,F_k54⟩
theorem k_k54:Known Try.prog fd_k54 [(90,C_k80)] []:=known_of mixT (by kernel_rfl) ⟨ok_k80,trivial⟩ trivial
theorem fn_k54:FnOK Try.prog an_k54 70 Try.f70 fd_k54:=fnOK (by kernel_rfl) (by kernel_rfl) (by kernel_rfl)
theorem ok_k54:ConOK Try.prog 70 C_k54:=con_ofU k_k54 (byRef:=br_k54) [(3,6)] fn_k54 rc_k54 args_k54 mem_k54 outs_k54 (fun a b K=>tree_k54 F_k80 a.1 K) (fun a b=>h_k54 F_k80 _ _) (fun a b K=>n_k54 F_k80 _ K)
def an_k53:Nat→LAnn:=fun n=>(find n []).getD ⟨0,[],[],[],[]⟩
noncomputable def fd_k53:FD:=fdOf Try.prog an_k53 Try.f66
def br_k53:FuncId→CC:=fun f=>⟨([79,87]:List Nat).contains f,(find f [(79,[0,1,2,3,4,5,6,7,8,9,10,11]),(87,[0,1,2,3,4,5,6,7,8,9,10,11])]).getD [],(find f [(79,[(0,9,9,.cons .str .nil)]),(87,[(0,9,9,.cons .str .nil)])]).getD []⟩
def rc_k53:RC:=⟨false,[(1,9,9,.cons .str .nil)],[(1,9,7)]⟩
theorem h_k53 (F_k30:B_k30) (F_k52:B_k52) (F_k34:B_k34) x1 x2 x3 x4 x5 x6 x7 x8 x9 x10 x11 x12 x13 x14 x15 x16 {α:Type} (K:SV→Mem→Option α):callBody (table [(79,⟨args_k30,mem_k30,outs_k30,F_k30⟩),(88,⟨args_k52,mem_k52,outs_k52,F_k52⟩),(87,⟨args_k34,mem_k34,outs_k34,F_k34⟩)] []) br_k53 rc_k53 fd_k53 (args_k53.svs (x1,x2,x3,x4,x5,x6,())) (mem_k53.mem ((x7,x8,x9,()),x10,x11,x12,x13,x14,x15,x16,())) K = tree_k53 F_k30 F_k52 F_k34 x1 x2 x3 x4 x5 x6 x7 x8 x9 x10 x11 x12 x13 x14 x15 x16 (fun r=>outsRun outs_k53 r K):=by kernel_rfl
noncomputable def C_k53:Con:=⟨args_k53,mem_k53,outs_k53,F_k53⟩
theorem k_k53:Known Try.prog fd_k53 [(79,C_k30),(88,C_k52),(87,C_k34)] []:=known_of mixT (by kernel_rfl) ⟨ok_k30,ok_k52,ok_k34,trivial⟩ trivial
theorem fn_k53:FnOK Try.prog an_k53 66 Try.f66 fd_k53:=fnOK (by kernel_rfl) (by kernel_rfl) (by kernel_rfl)
theorem ok_k53:ConOK Try.prog 66 C_k53:=con_of k_k53 (byRef:=br_k53) fn_k53 rc_k53 args_k53 mem_k53 outs_k53 (fun a b K=>tree_k53 F_k30 F_k52 F_k34 a.1 a.2.1 a.2.2.1 a.2.2.2.1 a.2.2.2.2.1 a.2.2.2.2.2.1 b.1.1 b.1.2.1 b.1.2.2.1 b.2.1 b.2.2.1 b.2.2.2.1 b.2.2.2.2.1 b.2.2.2.2.2.1 b.2.2.2.2.2.2.1 b.2.2.2.2.2.2.2.1 K) (fun a b=>h_k53 F_k30 F_k52 F_k34 _ _ _ _ _ _ _ _ _ _ _ _ _ _ _ _ _) (fun a b K=>n_k53 F_k30 F_k52 F_k34 _ _ _ _ _ _ _ _ _ _ _ _ _ _ _ _ K)
def an_k56:Nat→LAnn:=fun n=>(find n []).getD ⟨0,[],[],[],[]⟩
noncomputable def fd_k56:FD:=fdOf Try.prog an_k56 Try.f71
def br_k56:FuncId→CC:=fun f=>⟨([91]:List Nat).contains f,(find f [(91,[0,1,2,3,4,5,6,7,8,9,10,11])]).getD [],(find f [(91,[(0,9,9,.cons .str .nil)])]).getD []⟩
def rc_k56:RC:=⟨false,[(2,9,9,.cons .str .nil)],[]⟩
theorem h_k56 (F_k52:B_k52) (F_k33:B_k33) x1 x2 x3 x4 x5 x6 x7 x8 x9 x10 x11 x12 x13 x14 x15 x16 x17 {α:Type} (K:SV→Mem→Option α):callBody (table [(88,⟨args_k52,mem_k52,outs_k52,F_k52⟩),(91,⟨args_k33,mem_k33,outs_k33,F_k33⟩)] []) br_k56 rc_k56 fd_k56 (args_k56.svs (x1,x2,x3,(x4,x5,x6,x7,()),())) (mem_k56.mem ((x8,x9,x10,()),x11,x12,x13,x14,x15,x16,x17,())) K = tree_k56 F_k52 F_k33 x1 x2 x3 x4 x5 x6 x7 x8 x9 x10 x11 x12 x13 x14 x15 x16 x17 (fun r=>outsRun outs_k56 r K):=by kernel_rfl
noncomputable def C_k56:Con:=⟨args_k56,mem_k56,outs_k56,F_k56⟩
theorem k_k56:Known Try.prog fd_k56 [(88,C_k52),(91,C_k33)] []:=known_of mixT (by kernel_rfl) ⟨ok_k52,ok_k33,trivial⟩ trivial
theorem fn_k56:FnOK Try.prog an_k56 71 Try.f71 fd_k56:=fnOK (by kernel_rfl) (by kernel_rfl) (by kernel_rfl)
theorem ok_k56:ConOK Try.prog 71 C_k56:=con_of k_k56 (byRef:=br_k56) fn_k56 rc_k56 args_k56 mem_k56 outs_k56 (fun a b K=>tree_k56 F_k52 F_k33 a.1 a.2.1 a.2.2.1 a.2.2.2.1.1 a.2.2.2.1.2.1 a.2.2.2.1.2.2.1 a.2.2.2.1.2.2.2.1 b.1.1 b.1.2.1 b.1.2.2.1 b.2.1 b.2.2.1 b.2.2.2.1 b.2.2.2.2.1 b.2.2.2.2.2.1 b.2.2.2.2.2.2.1 b.2.2.2.2.2.2.2.1 K) (fun a b=>h_k56 F_k52 F_k33 _ _ _ _ _ _ _ _ _ _ _ _ _ _ _ _ _ _) (fun a b K=>n_k56 F_k52 F_k33 _ _ _ _ _ _ _ _ _ _ _ _ _ _ _ _ _ K)
end Go.Proofs.Ytljfdfghagiblaa.S2
