/- The program's functions come to their plain forms,by program. -/
import Derived.Test.YtljfdfghagiblaaGstore
import Derived.Test.YtljfdfghagiblaaHslot
import Derived.Test.YtljfdfghagiblaaHwire
set_option maxRecDepth 100000
set_option maxHeartbeats 0
set_option linter.unusedVariables false
set_option linter.unusedSimpArgs false
namespace Go.Proofs.Ytljfdfghagiblaa.S2
open Go
def an_k69:Nat→LAnn:=fun n=>(find n []).getD ⟨0,[],[],[],[]⟩
noncomputable def fd_k69:FD:=fdOf Try.prog an_k69 Try.f96
def br_k69:FuncId→CC:=fun f=>⟨([]:List Nat).contains f,(find f []).getD [],(find f []).getD []⟩
def rc_k69:RC:=⟨true,[],[]⟩
theorem h_k69 x1 x2 x3 x4 x5 x6 {α:Type} (K:SV→Mem→Option α):callBody (table [] []) br_k69 rc_k69 fd_k69 (args_k69.svs ((x1,x2,x3,x4,x5,x6,()),())) (mem_k69.mem ()) K = tree_k69 x1 x2 x3 x4 x5 x6 (fun r=>outsRun outs_k69 r K):=by kernel_rfl
noncomputable def C_k69:Con:=⟨args_k69,mem_k69,outs_k69,F_k69⟩
theorem k_k69:Known Try.prog fd_k69 [] []:=known_of mixT (by kernel_rfl) trivial trivial
theorem fn_k69:FnOK Try.prog an_k69 96 Try.f96 fd_k69:=fnOK (by kernel_rfl) (by kernel_rfl) (by kernel_rfl)
theorem ok_k69:ConOK Try.prog 96 C_k69:=con_of k_k69 (byRef:=br_k69) fn_k69 rc_k69 args_k69 mem_k69 outs_k69 (fun a b K=>tree_k69 a.1.1 a.1.2.1 a.1.2.2.1 a.1.2.2.2.1 a.1.2.2.2.2.1 a.1.2.2.2.2.2.1 K) (fun a b=>h_k69 _ _ _ _ _ _ _) (fun a b K=>n_k69 _ _ _ _ _ _ K)
def an_k68:Nat→LAnn:=fun n=>(find n [(3,⟨3,[1,3,16,17],[],[3,5,17,18,19,20,21,22,23,24],[1,3]⟩)]).getD ⟨0,[],[],[],[]⟩
noncomputable def fd_k68:FD:=fdOf Try.prog an_k68 Try.f117
def br_k68:FuncId→CC:=fun f=>⟨([]:List Nat).contains f,(find f []).getD [],(find f []).getD []⟩
def rc_k68:RC:=⟨true,[],[]⟩
theorem h_k68 (F_k72:B_k72) (F_k71:B_k71) x1 x2 x3 x4 x5 x6 {α:Type} (K:SV→Mem→Option α):callBody ((table [(56,⟨args_k72,mem_k72,outs_k72,F_k72⟩),(125,⟨args_k71,mem_k71,outs_k71,F_k71⟩)] []).unroll br_k68 [(3,7)]) br_k68 rc_k68 fd_k68 (args_k68.svs ((x1,x2,x3,x4,x5,x6,()),())) (mem_k68.mem ()) K = tree_k68 F_k72 F_k71 x1 x2 x3 x4 x5 x6 (fun r=>outsRun outs_k68 r K):=by kernel_rfl
noncomputable def C_k68:Con:=⟨args_k68,mem_k68,outs_k68,F_k68⟩
theorem k_k68:Known Try.prog fd_k68 [(56,C_k72),(125,C_k71)] []:=known_of mixT (by kernel_rfl) ⟨ok_k72,ok_k71,trivial⟩ trivial
theorem fn_k68:FnOK Try.prog an_k68 117 Try.f117 fd_k68:=fnOK (by kernel_rfl) (by kernel_rfl) (by kernel_rfl)
theorem ok_k68:ConOK Try.prog 117 C_k68:=con_ofU k_k68 (byRef:=br_k68) [(3,7)] fn_k68 rc_k68 args_k68 mem_k68 outs_k68 (fun a b K=>tree_k68 F_k72 F_k71 a.1.1 a.1.2.1 a.1.2.2.1 a.1.2.2.2.1 a.1.2.2.2.2.1 a.1.2.2.2.2.2.1 K) (fun a b=>h_k68 F_k72 F_k71 _ _ _ _ _ _ _) (fun a b K=>n_k68 F_k72 F_k71 _ _ _ _ _ _ K)
def an_k62:Nat→LAnn:=fun n=>(find n [(3,⟨3,[0,2,4,13],[],[0,3,5,6,7,8,13,14,15,16,17,18,19,20,21,22,23,24,25,26,27,28,29],[0,2,3,4]⟩)]).getD ⟨0,[],[],[],[]⟩
noncomputable def fd_k62:FD:=fdOf Try.prog an_k62 Try.f76
def br_k62:FuncId→CC:=fun f=>⟨([]:List Nat).contains f,(find f []).getD [],(find f []).getD []⟩
def rc_k62:RC:=⟨true,[],[]⟩
theorem h_k62 (F_k74:B_k74) (F_k73:B_k73) (F_k69:B_k69) x1 {α:Type} (K:SV→Mem→Option α):callBody ((table [(90,⟨args_k74,mem_k74,outs_k74,F_k74⟩),(95,⟨args_k73,mem_k73,outs_k73,F_k73⟩),(96,⟨args_k69,mem_k69,outs_k69,F_k69⟩)] []).unroll br_k62 [(3,7)]) br_k62 rc_k62 fd_k62 (args_k62.svs (x1,())) (mem_k62.mem ()) K = tree_k62 F_k74 F_k73 F_k69 x1 (fun r=>outsRun outs_k62 r K):=by kernel_rfl
noncomputable def C_k62:Con:=⟨args_k62,mem_k62,outs_k62,F_k62⟩
theorem k_k62:Known Try.prog fd_k62 [(90,C_k74),(95,C_k73),(96,C_k69)] []:=known_of mixT (by kernel_rfl) ⟨ok_k74,ok_k73,ok_k69,trivial⟩ trivial
theorem fn_k62:FnOK Try.prog an_k62 76 Try.f76 fd_k62:=fnOK (by kernel_rfl) (by kernel_rfl) (by kernel_rfl)
theorem ok_k62:ConOK Try.prog 76 C_k62:=con_ofU k_k62 (byRef:=br_k62) [(3,7)] fn_k62 rc_k62 args_k62 mem_k62 outs_k62 (fun a b K=>tree_k62 F_k74 F_k73 F_k69 a.1 K) (fun a b=>h_k62 F_k74 F_k73 F_k69 _ _) (fun a b K=>n_k62 F_k74 F_k73 F_k69 _ K)
def an_k61:Nat→LAnn:=fun n=>(find n []).getD ⟨0,[],[],[],[]⟩
noncomputable def fd_k61:FD:=fdOf Try.prog an_k61 Try.f59
def br_k61:FuncId→CC:=fun f=>⟨([83]:List Nat).contains f,(find f [(83,[0,1,2,3,4,5,6,7,8,9,10,11])]).getD [],(find f [(83,[(0,2,196,.cons (.int .i64) (.cons .str .nil))])]).getD []⟩
def rc_k61:RC:=⟨false,[(2,2,196,.cons (.int .i64) (.cons .str .nil))],[]⟩
theorem h_k61 (F_k5:B_k5) x1 x2 x3 {α:Type} (K:SV→Mem→Option α):callBody (table [(83,⟨args_k5,mem_k5,outs_k5,F_k5⟩)] []) br_k61 rc_k61 fd_k61 (args_k61.svs ()) (mem_k61.mem ((x1,()),x2,x3,())) K = tree_k61 F_k5 x1 x2 x3 (fun r=>outsRun outs_k61 r K):=by kernel_rfl
noncomputable def C_k61:Con:=⟨args_k61,mem_k61,outs_k61,F_k61⟩
theorem k_k61:Known Try.prog fd_k61 [(83,C_k5)] []:=known_of mixT (by kernel_rfl) ⟨ok_k5,trivial⟩ trivial
theorem fn_k61:FnOK Try.prog an_k61 59 Try.f59 fd_k61:=fnOK (by kernel_rfl) (by kernel_rfl) (by kernel_rfl)
theorem ok_k61:ConOK Try.prog 59 C_k61:=con_of k_k61 (byRef:=br_k61) fn_k61 rc_k61 args_k61 mem_k61 outs_k61 (fun a b K=>tree_k61 F_k5 b.1.1 b.2.1 b.2.2.1 K) (fun a b=>h_k61 F_k5 _ _ _ _) (fun a b K=>n_k61 F_k5 _ _ _ K)
def an_k66:Nat→LAnn:=fun n=>(find n []).getD ⟨0,[],[],[],[]⟩
noncomputable def fd_k66:FD:=fdOf Try.prog an_k66 Try.f46
def br_k66:FuncId→CC:=fun f=>⟨([75]:List Nat).contains f,(find f [(75,[0,1,2,3,4,5,6,7,8,9,10,11])]).getD [],(find f [(75,[(0,2,196,.cons (.int .i64) (.cons .str .nil))])]).getD []⟩
def rc_k66:RC:=⟨true,[(3,2,196,.cons (.int .i64) (.cons .str .nil))],[]⟩
theorem h_k66 (F_k54:B_k54) (F_k62:B_k62) x1 x2 x3 {α:Type} (K:SV→Mem→Option α):callBody (table [(75,⟨args_k54,mem_k54,outs_k54,F_k54⟩),(76,⟨args_k62,mem_k62,outs_k62,F_k62⟩)] []) br_k66 rc_k66 fd_k66 (args_k66.svs ()) (mem_k66.mem ((),(x1,()),x2,x3,())) K = tree_k66 F_k54 F_k62 x1 x2 x3 (fun r=>outsRun routs_k66 r K):=by kernel_rfl
noncomputable def C_k66:Con:=⟨args_k66,mem_k66,outs_k66,F_k66⟩
theorem k_k66:Known Try.prog fd_k66 [(75,C_k54),(76,C_k62)] []:=known_of mixT (by kernel_rfl) ⟨ok_k54,ok_k62,trivial⟩ trivial
theorem fn_k66:FnOK Try.prog an_k66 46 Try.f46 fd_k66:=fnOK (by kernel_rfl) (by kernel_rfl) (by kernel_rfl)
noncomputable def CR_k66:Con:=⟨args_k66,mem_k66,routs_k66,R_k66⟩
theorem okr_k66:ConOK Try.prog 46 CR_k66:=con_of k_k66 (byRef:=br_k66) fn_k66 rc_k66 args_k66 mem_k66 routs_k66 (fun a b K=>tree_k66 F_k54 F_k62 b.2.1.1 b.2.2.1 b.2.2.2.1 K) (fun a b=>h_k66 F_k54 F_k62 _ _ _ _) (fun a b K=>n_k66 F_k54 F_k62 _ _ _ K)
theorem ok_k66:ConOK Try.prog 46 C_k66:=con_reads okr_k66 (by rfl) reads_k66
def an_k67:Nat→LAnn:=fun n=>(find n []).getD ⟨0,[],[],[],[]⟩
noncomputable def fd_k67:FD:=fdOf Try.prog an_k67 Try.f106
def br_k67:FuncId→CC:=fun f=>⟨([116]:List Nat).contains f,(find f [(116,[0,1,2,3,4,5,6,7,8,9,10,11])]).getD [],(find f [(116,[(0,2,196,.cons (.int .i64) (.cons .str .nil))])]).getD []⟩
def rc_k67:RC:=⟨false,[(2,2,196,.cons (.int .i64) (.cons .str .nil))],[(2,2,3)]⟩
theorem h_k67 (F_k68:B_k68) (F_k55:B_k55) x1 x2 x3 x4 x5 x6 x7 x8 x9 {α:Type} (K:SV→Mem→Option α):callBody (table [(117,⟨args_k68,mem_k68,outs_k68,F_k68⟩),(116,⟨args_k55,mem_k55,outs_k55,F_k55⟩)] []) br_k67 rc_k67 fd_k67 (args_k67.svs ((x1,x2,x3,x4,x5,x6,()),())) (mem_k67.mem ((),(x7,()),x8,x9,())) K = tree_k67 F_k68 F_k55 x1 x2 x3 x4 x5 x6 x7 x8 x9 (fun r=>outsRun outs_k67 r K):=by kernel_rfl
noncomputable def C_k67:Con:=⟨args_k67,mem_k67,outs_k67,F_k67⟩
theorem k_k67:Known Try.prog fd_k67 [(117,C_k68),(116,C_k55)] []:=known_of mixT (by kernel_rfl) ⟨ok_k68,ok_k55,trivial⟩ trivial
theorem fn_k67:FnOK Try.prog an_k67 106 Try.f106 fd_k67:=fnOK (by kernel_rfl) (by kernel_rfl) (by kernel_rfl)
theorem ok_k67:ConOK Try.prog 106 C_k67:=con_of k_k67 (byRef:=br_k67) fn_k67 rc_k67 args_k67 mem_k67 outs_k67 (fun a b K=>tree_k67 F_k68 F_k55 a.1.1 a.1.2.1 a.1.2.2.1 a.1.2.2.2.1 a.1.2.2.2.2.1 a.1.2.2.2.2.2.1 b.2.1.1 b.2.2.1 b.2.2.2.1 K) (fun a b=>h_k67 F_k68 F_k55 _ _ _ _ _ _ _ _ _ _) (fun a b K=>n_k67 F_k68 F_k55 _ _ _ _ _ _ _ _ _ K)
def an_k64:Nat→LAnn:=fun n=>(find n []).getD ⟨0,[],[],[],[]⟩
noncomputable def fd_k64:FD:=fdOf Try.prog an_k64 Try.f84
def br_k64:FuncId→CC:=fun f=>⟨([106]:List Nat).contains f,(find f [(106,[0,1,2,3,4,5,6,7,8,9,10,11])]).getD [],(find f []).getD []⟩
def rc_k64:RC:=⟨false,[(2,2,196,.cons (.int .i64) (.cons .str .nil))],[(2,2,3)]⟩
theorem h_k64 (F_k67:B_k67) x1 x2 x3 x4 {α:Type} (K:SV→Mem→Option α):callBody (table [(106,⟨args_k67,mem_k67,outs_k67,F_k67⟩)] []) br_k64 rc_k64 fd_k64 (args_k64.svs (x1,())) (mem_k64.mem ((),(x2,()),x3,x4,())) K = tree_k64 F_k67 x1 x2 x3 x4 (fun r=>outsRun outs_k64 r K):=by kernel_rfl
noncomputable def C_k64:Con:=⟨args_k64,mem_k64,outs_k64,F_k64⟩
theorem k_k64:Known Try.prog fd_k64 [(106,C_k67)] []:=known_of mixT (by kernel_rfl) ⟨ok_k67,trivial⟩ trivial
theorem fn_k64:FnOK Try.prog an_k64 84 Try.f84 fd_k64:=fnOK (by kernel_rfl) (by kernel_rfl) (by kernel_rfl)
theorem ok_k64:ConOK Try.prog 84 C_k64:=con_of k_k64 (byRef:=br_k64) fn_k64 rc_k64 args_k64 mem_k64 outs_k64 (fun a b K=>tree_k64 F_k67 a.1 b.2.1.1 b.2.2.1 b.2.2.2.1 K) (fun a b=>h_k64 F_k67 _ _ _ _ _) (fun a b K=>n_k64 F_k67 _ _ _ _ K)
def an_k63:Nat→LAnn:=fun n=>(find n []).getD ⟨0,[],[],[],[]⟩
noncomputable def fd_k63:FD:=fdOf Try.prog an_k63 Try.f85
def br_k63:FuncId→CC:=fun f=>⟨([46,106]:List Nat).contains f,(find f [(46,[0,1,2,3,4,5,6,7,8,9,10,11]),(106,[0,1,2,3,4,5,6,7,8,9,10,11])]).getD [],(find f []).getD []⟩
def rc_k63:RC:=⟨false,[(2,2,196,.cons (.int .i64) (.cons .str .nil))],[(2,2,3)]⟩
theorem h_k63 (F_k66:B_k66) (F_k67:B_k67) x1 x2 x3 x4 x5 x6 {α:Type} (K:SV→Mem→Option α):callBody (table [(46,⟨args_k66,mem_k66,outs_k66,F_k66⟩),(106,⟨args_k67,mem_k67,outs_k67,F_k67⟩)] []) br_k63 rc_k63 fd_k63 (args_k63.svs (x1,x2,x3,())) (mem_k63.mem ((),(x4,()),x5,x6,())) K = tree_k63 F_k66 F_k67 x1 x2 x3 x4 x5 x6 (fun r=>outsRun outs_k63 r K):=by kernel_rfl
noncomputable def C_k63:Con:=⟨args_k63,mem_k63,outs_k63,F_k63⟩
theorem k_k63:Known Try.prog fd_k63 [(46,C_k66),(106,C_k67)] []:=known_of mixT (by kernel_rfl) ⟨ok_k66,ok_k67,trivial⟩ trivial
theorem fn_k63:FnOK Try.prog an_k63 85 Try.f85 fd_k63:=fnOK (by kernel_rfl) (by kernel_rfl) (by kernel_rfl)
theorem ok_k63:ConOK Try.prog 85 C_k63:=con_of k_k63 (byRef:=br_k63) fn_k63 rc_k63 args_k63 mem_k63 outs_k63 (fun a b K=>tree_k63 F_k66 F_k67 a.1 a.2.1 a.2.2.1 b.2.1.1 b.2.2.1 b.2.2.2.1 K) (fun a b=>h_k63 F_k66 F_k67 _ _ _ _ _ _ _) (fun a b K=>n_k63 F_k66 F_k67 _ _ _ _ _ _ K)
def an_k65:Nat→LAnn:=fun n=>(find n []).getD ⟨0,[],[],[],[]⟩
noncomputable def fd_k65:FD:=fdOf Try.prog an_k65 Try.f89
def br_k65:FuncId→CC:=fun f=>⟨([46,106]:List Nat).contains f,(find f [(46,[0,1,2,3,4,5,6,7,8,9,10,11]),(106,[0,1,2,3,4,5,6,7,8,9,10,11])]).getD [],(find f []).getD []⟩
def rc_k65:RC:=⟨false,[(2,2,196,.cons (.int .i64) (.cons .str .nil))],[(2,2,3)]⟩
theorem h_k65 (F_k66:B_k66) (F_k67:B_k67) x1 x2 x3 x4 {α:Type} (K:SV→Mem→Option α):callBody (table [(46,⟨args_k66,mem_k66,outs_k66,F_k66⟩),(106,⟨args_k67,mem_k67,outs_k67,F_k67⟩)] []) br_k65 rc_k65 fd_k65 (args_k65.svs (x1,())) (mem_k65.mem ((),(x2,()),x3,x4,())) K = tree_k65 F_k66 F_k67 x1 x2 x3 x4 (fun r=>outsRun outs_k65 r K):=by kernel_rfl
noncomputable def C_k65:Con:=⟨args_k65,mem_k65,outs_k65,F_k65⟩
theorem k_k65:Known Try.prog fd_k65 [(46,C_k66),(106,C_k67)] []:=known_of mixT (by kernel_rfl) ⟨ok_k66,ok_k67,trivial⟩ trivial
theorem fn_k65:FnOK Try.prog an_k65 89 Try.f89 fd_k65:=fnOK (by kernel_rfl) (by kernel_rfl) (by kernel_rfl)
theorem ok_k65:ConOK Try.prog 89 C_k65:=con_of k_k65 (byRef:=br_k65) fn_k65 rc_k65 args_k65 mem_k65 outs_k65 (fun a b K=>tree_k65 F_k66 F_k67 a.1 b.2.1.1 b.2.2.1 b.2.2.2.1 K) (fun a b=>h_k65 F_k66 F_k67 _ _ _ _ _) (fun a b K=>n_k65 F_k66 F_k67 _ _ _ _ K)
end Go.Proofs.Ytljfdfghagiblaa.S2
