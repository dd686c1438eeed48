/- The program's functions come to their plain forms,by program. -/
import Derived.Test.YtljfdfghagiblaaGstore
import Derived.Test.YtljfdfghagiblaaHslot
import Derived.Test.YtljfdfghagiblaaHwire
set_option maxRecDepth 100000
set_option maxHeartbeats 0
set_option linter.unusedVariables false
set_option linter.unusedSimpArgs false
namespace Go.Proofs.Ytljfdfghagiblaa.S2
open Go
def an_k70:Nat→LAnn:=fun n=>(find n []).getD ⟨0,[],[],[],[]⟩
noncomputable def fd_k70:FD:=fdOf Try.prog an_k70 Try.f96
def br_k70:FuncId→CC:=fun f=>⟨([]:List Nat).contains f,(find f []).getD [],(find f []).getD []⟩
def rc_k70:RC:=⟨true,[],[]⟩
theorem h_k70 x1 x2 x3 x4 x5 x6 {α:Type} (K:SV→Mem→Option α):callBody (table [] []) br_k70 rc_k70 fd_k70 (args_k70.svs ((x1,x2,x3,x4,x5,x6,()),())) (mem_k70.mem ()) K = tree_k70 x1 x2 x3 x4 x5 x6 (fun r=>outsRun outs_k70 r K):=by kernel_rfl
noncomputable def C_k70:Con:=⟨args_k70,mem_k70,outs_k70,F_k70⟩
theorem k_k70:Known Try.prog fd_k70 [] []:=known_of mixT (by kernel_rfl) trivial trivial
theorem fn_k70:FnOK Try.prog an_k70 96 Try.f96 fd_k70:=fnOK (by kernel_rfl) (by kernel_rfl) (by kernel_rfl)
theorem ok_k70:ConOK Try.prog 96 C_k70:=con_of k_k70 (byRef:=br_k70) fn_k70 rc_k70 args_k70 mem_k70 outs_k70 (fun a b K=>tree_k70 a.1.1 a.1.2.1 a.1.2.2.1 a.1.2.2.2.1 a.1.2.2.2.2.1 a.1.2.2.2.2.2.1 K) (fun a b=>h_k70 _ _ _ _ _ _ _) (fun a b K=>n_k70 _ _ _ _ _ _ K)
def an_k69:Nat→LAnn:=fun n=>(find n [(3,⟨3,[1,3,16,17],[],[3,5,17,18,19,20,21,22,23,24],[1,3]⟩)]).getD ⟨0,[],[],[],[]⟩
noncomputable def fd_k69:FD:=fdOf Try.prog an_k69 Try.f117
def br_k69:FuncId→CC:=fun f=>⟨([]:List Nat).contains f,(find f []).getD [],(find f []).getD []⟩
def rc_k69:RC:=⟨true,[],[]⟩
theorem h_k69 (F_k73:B_k73) (F_k72:B_k72) x1 x2 x3 x4 x5 x6 {α:Type} (K:SV→Mem→Option α):callBody ((table [(56,⟨args_k73,mem_k73,outs_k73,F_k73⟩),(125,⟨args_k72,mem_k72,outs_k72,F_k72⟩)] []).unroll br_k69 [(3,7)]) br_k69 rc_k69 fd_k69 (args_k69.svs ((x1,x2,x3,x4,x5,x6,()),())) (mem_k69.mem ()) K = tree_k69 F_k73 F_k72 x1 x2 x3 x4 x5 x6 (fun r=>outsRun outs_k69 r K):=by kernel_rfl
noncomputable def C_k69:Con:=⟨args_k69,mem_k69,outs_k69,F_k69⟩
theorem k_k69:Known Try.prog fd_k69 [(56,C_k73),(125,C_k72)] []:=known_of mixT (by kernel_rfl) ⟨ok_k73,ok_k72,trivial⟩ trivial
theorem fn_k69:FnOK Try.prog an_k69 117 Try.f117 fd_k69:=fnOK (by kernel_rfl) (by kernel_rfl) (by kernel_rfl)
theorem ok_k69:ConOK Try.prog 117 C_k69:=con_ofU k_k69 (byRef:=br_k69) [(3,7)] fn_k69 rc_k69 args_k69 mem_k69 outs_k69 (fun a b K=>tree_k69 F_k73 F_k72 a.1.1 a.1.2.1 a.1.2.2.1 a.1.2.2.2.1 a.1.2.2.2.2.1 a.1.2.2.2.2.2.1 K) (fun a b=>h_k69 F_k73 F_k72 _ _ _ _ _ _ _) (fun a b K=>n_k69 F_k73 F_k72 _ _ _ _ _ _ K)
def an_k63:Nat→LAnn:=fun n=>(find n [(3,⟨3,[0,2,4,13],[],[0,3,5,6,7,8,13,14,15,16,17,18,19,20,21,22,23,24,25,26,27,28,29],[0,2,3,4]⟩)]).getD ⟨0,[],[],[],[]⟩
noncomputable def fd_k63:FD:=fdOf Try.prog an_k63 Try.f76
def br_k63:FuncId→CC:=fun f=>⟨([]:List Nat).contains f,(find f []).getD [],(find f []).getD []⟩
def rc_k63:RC:=⟨true,[],[]⟩
theorem h_k63 (F_k75:B_k75) (F_k74:B_k74) (F_k70:B_k70) x1 {α:Type} (K:SV→Mem→Option α):callBody ((table [(90,⟨args_k75,mem_k75,outs_k75,F_k75⟩),(95,⟨args_k74,mem_k74,outs_k74,F_k74⟩),(96,⟨args_k70,mem_k70,outs_k70,F_k70⟩)] []).unroll br_k63 [(3,7)]) br_k63 rc_k63 fd_k63 (args_k63.svs (x1,())) (mem_k63.mem ()) K = tree_k63 F_k75 F_k74 F_k70 x1 (fun r=>outsRun outs_k63 r K):=by kernel_rfl
noncomputable def C_k63:Con:=⟨args_k63,mem_k63,outs_k63,F_k63⟩
theorem k_k63:Known Try.prog fd_k63 [(90,C_k75),(95,C_k74),(96,C_k70)] []:=known_of mixT (by kernel_rfl) ⟨ok_k75,ok_k74,ok_k70,trivial⟩ trivial
theorem fn_k63:FnOK Try.prog an_k63 76 Try.f76 fd_k63:=fnOK (by kernel_rfl) (by kernel_rfl) (by kernel_rfl)
theorem ok_k63:ConOK Try.prog 76 C_k63:=con_ofU k_k63 (byRef:=br_k63) [(3,7)] fn_k63 rc_k63 args_k63 mem_k63 outs_k63 (fun a b K=>tree_k63 F_k75 F_k74 F_k70 a.1 K) (fun a b=>h_k63 F_k75 F_k74 F_k70 _ _) (fun a b K=>n_k63 F_k75 F_k74 F_k70 _ K)
def an_k62:Nat→LAnn:=fun n=>(find n []).getD ⟨0,[],[],[],[]⟩
noncomputable def fd_k62:FD:=fdOf Try.prog an_k62 Try.f59
def br_k62:FuncId→CC:=fun f=>⟨([83]:List Nat).contains f,(find f [(83,[0,1,2,3,4,5,6,7,8,9,10,11])]).getD [],(find f [(83,[(0,2,196,.cons (.int .i64) (.cons .str .nil))])]).getD []⟩
def rc_k62:RC:=⟨false,[(2,2,196,.cons (.int .i64) (.cons .str .nil))],[]⟩
theorem h_k62 (F_k5:B_k5) x1 x2 x3 {α:Type} (K:SV→Mem→Option α):callBody (table [(83,⟨args_k5,mem_k5,outs_k5,F_k5⟩)] []) br_k62 rc_k62 fd_k62 (args_k62.svs ()) (mem_k62.mem ((x1,()),x2,x3,())) K = tree_k62 F_k5 x1 x2 x3 (fun r=>outsRun outs_k62 r K):=by kernel_rfl
noncomputable def C_k62:Con:=⟨args_k62,mem_k62,outs_k62,F_k62⟩
theorem k_k62:Known Try.prog fd_k62 [(83,C_k5)] []:=known_of mixT (by kernel_rfl) ⟨ok_k5,trivial⟩ trivial
theorem fn_k62:FnOK Try.prog an_k62 59 Try.f59 fd_k62:=fnOK (by kernel_rfl) (by kernel_rfl) (by kernel_rfl)
theorem ok_k62:ConOK Try.prog 59 C_k62:=con_of k_k62 (byRef:=br_k62) fn_k62 rc_k62 args_k62 mem_k62 outs_k62 (fun a b K=>tree_k62 F_k5 b.1.1 b.2.1 b.2.2.1 K) (fun a b=>h_k62 F_k5 _ _ _ _) (fun a b K=>n_k62 F_k5 _ _ _ K)
def an_k67:Nat→LAnn:=fun n=>(find n []).getD ⟨0,[],[],[],[]⟩
noncomputable def fd_k67:FD:=fdOf Try.prog an_k67 Try.f46
def br_k67:FuncId→CC:=fun f=>⟨([75]:List Nat).contains f,(find f [(75,[0,1,2,3,4,5,6,7,8,9,10,11])]).getD [],(find f [(75,[(0,2,196,.cons (.int .i64) (.cons .str .nil))])]).getD []⟩
def rc_k67:RC:=⟨true,[(3,2,196,.cons (.int .i64) (.cons .str .nil))],[]⟩
theorem h_k67 (F_k55:B_k55) (F_k63:B_k63) x1 x2 x3 {α:Type} (K:SV→Mem→Option α):callBody (table [(75,⟨args_k55,mem_k55,outs_k55,F_k55⟩),(76,⟨args_k63,mem_k63,outs_k63,F_k63⟩)] []) br_k67 rc_k67 fd_k67 (args_k67.svs ()) (mem_k67.mem ((),(x1,()),x2,x3,())) K = tree_k67 F_k55 F_k63 x1 x2 x3 (fun r=>outsRun routs_k67 r K):=by kernel_rfl
noncomputable def C_k67:Con:=⟨args_k67,mem_k67,outs_k67,F_k67⟩
theorem k_k67:Known Try.prog fd_k67 [(75,C_k55),(76,C_k63)] []:=known_of mixT (by kernel_rfl) ⟨ok_k55,ok_k63,trivial⟩ trivial
theorem fn_k67:FnOK Try.prog an_k67 46 Try.f46 fd_k67:=fnOK (by kernel_rfl) (by kernel_rfl) (by kernel_rfl)
noncomputable def CR_k67:Con:=⟨args_k67,mem_k67,routs_k67,R_k67⟩
theorem okr_k67:ConOK Try.prog 46 CR_k67:=con_of k_k67 (byRef:=br_k67) fn_k67 rc_k67 args_k67 mem_k67 routs_k67 (fun a b K=>tree_k67 F_k55 F_k63 b.2.1.1 b.2.2.1 b.2.2.2.1 K) (fun a b=>h_k67 F_k55 F_k63 _ _ _ _) (fun a b K=>n_k67 F_k55 F_k63 _ _ _ K)
theorem ok_k67:ConOK Try.prog 46 C_k67:=con_reads okr_k67 (by rfl) reads_k67
def an_k68:Nat→LAnn:=fun n=>(find n []).getD ⟨0,[],[],[],[]⟩
noncomputable def fd_k68:FD:=fdOf Try.prog an_k68 Try.f106
def br_k68:FuncId→CC:=fun f=>⟨([116]:List Nat).contains f,(find f [(116,[0,1,2,3,4,5,6,7,8,9,10,11])]).getD [],(find f [(116,[(0,2,196,.cons (.int .i64) (.cons .str .nil))])]).getD []⟩
def rc_k68:RC:=⟨false,[(2,2,196,.cons (.int .i64) (.cons .str .nil))],[(2,2,3)]⟩
theorem h_k68 (F_k69:B_k69) (F_k56:B_k56) x1 x2 x3 x4 x5 x6 x7 x8 x9 {α:Type} (K:SV→Mem→Option α):callBody (table [(117,⟨args_k69,mem_k69,outs_k69,F_k69⟩),(116,⟨args_k56,mem_k56,outs_k56,F_k56⟩)] []) br_k68 rc_k68 fd_k68 (args_k68.svs ((x1,x2,x3,x4,x5,x6,()),())) (mem_k68.mem ((),(x7,()),x8,x9,())) K = tree_k68 F_k69 F_k56 x1 x2 x3 x4 x5 x6 x7 x8 x9 (fun r=>outsRun outs_k68 r K):=by kernel_rfl
noncomputable def C_k68:Con:=⟨args_k68,mem_k68,outs_k68,F_k68⟩
theorem k_k68:Known Try.prog fd_k68 [(117,C_k69),(116,C_k56)] []:=known_of mixT (by kernel_rfl) ⟨ok_k69,ok_k56,trivial⟩ trivial
theorem fn_k68:FnOK Try.prog an_k68 106 Try.f106 fd_k68:=fnOK (by kernel_rfl) (by kernel_rfl) (by kernel_rfl)
theorem ok_k68:ConOK Try.prog 106 C_k68:=con_of k_k68 (byRef:=br_k68) fn_k68 rc_k68 args_k68 mem_k68 outs_k68 (fun a b K=>tree_k68 F_k69 F_k56 a.1.1 a.1.2.1 a.1.2.2.1 a.1.2.2.2.1 a.1.2.2.2.2.1 a.1.2.2.2.2.2.1 b.2.1.1 b.2.2.1 b.2.2.2.1 K) (fun a b=>h_k68 F_k69 F_k56 _ _ _ _ _ _ _ _ _ _) (fun a b K=>n_k68 F_k69 F_k56 _ _ _ _ _ _ _ _ _ K)
def an_k65:Nat→LAnn:=fun n=>(find n []).getD ⟨0,[],[],[],[]⟩
noncomputable def fd_k65:FD:=fdOf Try.prog an_k65 Try.f84
def br_k65:FuncId→CC:=fun f=>⟨([106]:List Nat).contains f,(find f [(106,[0,1,2,3,4,5,6,7,8,9,10,11])]).getD [],(find f []).getD []⟩
def rc_k65:RC:=⟨false,[(2,2,196,.cons (.int .i64) (.cons .str .nil))],[(2,2,3)]⟩
theorem h_k65 (F_k68:B_k68) x1 x2 x3 x4 {α:Type} (K:SV→Mem→Option α):callBody (table [(106,⟨args_k68,mem_k68,outs_k68,F_k68⟩)] []) br_k65 rc_k65 fd_k65 (args_k65.svs (x1,())) (mem_k65.mem ((),(x2,()),x3,x4,())) K = tree_k65 F_k68 x1 x2 x3 x4 (fun r=>outsRun outs_k65 r K):=by kernel_rfl
noncomputable def C_k65:Con:=⟨args_k65,mem_k65,outs_k65,F_k65⟩
theorem k_k65:Known Try.prog fd_k65 [(106,C_k68)] []:=known_of mixT (by kernel_rfl) ⟨ok_k68,trivial⟩ trivial
theorem fn_k65:FnOK Try.prog an_k65 84 Try.f84 fd_k65:=fnOK (by kernel_rfl) (by kernel_rfl) (by kernel_rfl)
theorem ok_k65:ConOK Try.prog 84 C_k65:=con_of k_k65 (byRef:=br_k65) fn_k65 rc_k65 args_k65 mem_k65 outs_k65 (fun a b K=>tree_k65 F_k68 a.1 b.2.1.1 b.2.2.1 b.2.2.2.1 K) (fun a b=>h_k65 F_k68 _ _ _ _ _) (fun a b K=>n_k65 F_k68 _ _ _ _ K)
def an_k64:Nat→LAnn:=fun n=>(find n []).getD ⟨0,[],[],[],[]⟩
noncomputable def fd_k64:FD:=fdOf Try.prog an_k64 Try.f85
def br_k64:FuncId→CC:=fun f=>⟨([46,106]:List Nat).contains f,(find f [(46,[0,1,2,3,4,5,6,7,8,9,10,11]),(106,[0,1,2,3,4,5,6,7,8,9,10,11])]).getD [],(find f []).getD []⟩
def rc_k64:RC:=⟨false,[(2,2,196,.cons (.int .i64) (.cons .str .nil))],[(2,2,3)]⟩
theorem h_k64 (F_k67:B_k67) (F_k68:B_k68) x1 x2 x3 x4 x5 x6 {α:Type} (K:SV→Mem→Option α):callBody (table [(46,⟨args_k67,mem_k67,outs_k67,F_k67⟩),(106,⟨args_k68,mem_k68,outs_k68,F_k68⟩)] []) br_k64 rc_k64 fd_k64 (args_k64.svs (x1,x2,x3,())) (mem_k64.mem ((),(x4,()),x5,x6,())) K = tree_k64 F_k67 F_k68 x1 x2 x3 x4 x5 x6 (fun r=>outsRun outs_k64 r K):=by kernel_rfl
noncomputable def C_k64:Con:=⟨args_k64,mem_k64,outs_k64,F_k64⟩
theorem k_k64:Known Try.prog fd_k64 [(46,C_k67),(106,C_k68)] []:=known_of mixT (by kernel_rfl) ⟨ok_k67,ok_k68,trivial⟩ trivial
theorem fn_k64:FnOK Try.prog an_k64 85 Try.f85 fd_k64:=fnOK (by kernel_rfl) (by kernel_rfl) (by kernel_rfl)
theorem ok_k64:ConOK Try.prog 85 C_k64:=con_of k_k64 (byRef:=br_k64) fn_k64 rc_k64 args_k64 mem_k64 outs_k64 (fun a b K=>tree_k64 F_k67 F_k68 a.1 a.2.1 a.2.2.1 b.2.1.1 b.2.2.1 b.2.2.2.1 K) (fun a b=>h_k64 F_k67 F_k68 _ _ _ _ _ _ _) (fun a b K=>n_k64 F_k67 F_k68 _ _ _ _ _ _ K)
def an_k66:Nat→LAnn:=fun n=>(find n []).getD ⟨0,[],[],[],[]⟩
noncomputable def fd_k66:FD:=fdOf Try.prog an_k66 Try.f89
def br_k66:FuncId→CC:=fun f=>⟨([46,106]:List Nat).contains f,(find f [(46,[0,1,2,3,4,5,6,7,8,9,10,11]),(106,[0,1,2,3,4,5,6,7,8,9,10,11])]).getD [],(find f []).getD []⟩
def rc_k66:RC:=⟨false,[(2,2,196,.cons (.int .i64) (.cons .str .nil))],[(2,2,3)]⟩
theorem h_k66 (F_k67:B_k67) (F_k68:B_k68) x1 x2 x3 x4 {α:Type} (K:SV→Mem→Option α):callBody (table [(46,⟨args_k67,mem_k67,outs_k67,F_k67⟩),(106,⟨args_k68,mem_k68,outs_k68,F_k68⟩)] []) br_k66 rc_k66 fd_k66 (args_k66.svs (x1,())) (mem_k66.mem ((),(x2,()),x3,x4,())) K = tree_k66 F_k67 F_k68 x1 x2 x3 x4 (fun r=>outsRun outs_k66 r K):=by kernel_rfl
noncomputable def C_k66:Con:=⟨args_k66,mem_k66,outs_k66,F_k66⟩
theorem k_k66:Known Try.prog fd_k66 [(46,C_k67),(106,C_k68)] []:=known_of mixT (by kernel_rfl) ⟨ok_k67,ok_k68,trivial⟩ trivial
theorem fn_k66:FnOK Try.prog an_k66 89 Try.f89 fd_k66:=fnOK (by kernel_rfl) (by kernel_rfl) (by kernel_rfl)
theorem ok_k66:ConOK Try.prog 89 C_k66:=con_of k_k66 (byRef:=br_k66) fn_k66 rc_k66 args_k66 mem_k66 outs_k66 (fun a b K=>tree_k66 F_k67 F_k68 a.1 b.2.1.1 b.2.2.1 b.2.2.2.1 K) (fun a b=>h_k66 F_k67 F_k68 _ _ _ _ _) (fun a b K=>n_k66 F_k67 F_k68 _ _ _ _ K)
end Go.Proofs.Ytljfdfghagiblaa.S2
