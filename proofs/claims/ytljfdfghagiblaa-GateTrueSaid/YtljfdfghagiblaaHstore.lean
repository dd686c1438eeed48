/- The program's functions come to their plain forms,by program. -/
import Derived.Test.YtljfdfghagiblaaGstore
import Derived.Test.YtljfdfghagiblaaHslot
import Derived.Test.YtljfdfghagiblaaHwire
set_option maxRecDepth 100000
set_option maxHeartbeats 0
set_option linter.unusedVariables false
set_option linter.unusedSimpArgs false
namespace Go.Proofs.Ytljfdfghagiblaa.S2
open Go
def an_k75:Nat→LAnn:=fun n=>(find n []).getD ⟨0,[],[],[],[]⟩
noncomputable def fd_k75:FD:=fdOf Try.prog an_k75 Try.f96
def br_k75:FuncId→CC:=fun f=>⟨([]:List Nat).contains f,(find f []).getD [],(find f []).getD []⟩
def rc_k75:RC:=⟨true,[],[]⟩
theorem h_k75 x1 x2 x3 x4 x5 x6 {α:Type} (K:SV→Mem→Option α):callBody (table [] []) br_k75 rc_k75 fd_k75 (args_k75.svs ((x1,x2,x3,x4,x5,x6,()),())) (mem_k75.mem ()) K = tree_k75 x1 x2 x3 x4 x5 x6 (fun r=>outsRun outs_k75 r K):=by kernel_rfl
noncomputable def C_k75:Con:=⟨args_k75,mem_k75,outs_k75,F_k75⟩
theorem k_k75:Known Try.prog fd_k75 [] []:=known_of mixT (by kernel_rfl) trivial trivial
theorem fn_k75:FnOK Try.prog an_k75 96 Try.f96 fd_k75:=fnOK (by kernel_rfl) (by kernel_rfl) (by kernel_rfl)
theorem ok_k75:ConOK Try.prog 96 C_k75:=con_of k_k75 (byRef:=br_k75) fn_k75 rc_k75 args_k75 mem_k75 outs_k75 (fun a b K=>tree_k75 a.1.1 a.1.2.1 a.1.2.2.1 a.1.2.2.2.1 a.1.2.2.2.2.1 a.1.2.2.2.2.2.1 K) (fun a b=>h_k75 _ _ _ _ _ _ _) (fun a b K=>n_k75 _ _ _ _ _ _ K)
def an_k74:Nat→LAnn:=fun n=>(find n [(3,⟨3,[1,3,16,17],[],[3,5,17,18,19,20,21,22,23,24],[1,3]⟩)]).getD ⟨0,[],[],[],[]⟩
noncomputable def fd_k74:FD:=fdOf Try.prog an_k74 Try.f117
def br_k74:FuncId→CC:=fun f=>⟨([]:List Nat).contains f,(find f []).getD [],(find f []).getD []⟩
def rc_k74:RC:=⟨true,[],[]⟩
theorem h_k74 (F_k78:B_k78) (F_k77:B_k77) x1 x2 x3 x4 x5 x6 {α:Type} (K:SV→Mem→Option α):callBody ((table [(56,⟨args_k78,mem_k78,outs_k78,F_k78⟩),(125,⟨args_k77,mem_k77,outs_k77,F_k77⟩)] []).unroll br_k74 [(3,7)]) br_k74 rc_k74 fd_k74 (args_k74.svs ((x1,x2,x3,x4,x5,x6,()),())) (mem_k74.mem ()) K = tree_k74 F_k78 F_k77 x1 x2 x3 x4 x5 x6 (fun r=>outsRun outs_k74 r K):=by kernel_rfl
noncomputable def C_k74:Con:=⟨args_k74,mem_k74,outs_k74,F_k74⟩
theorem k_k74:Known Try.prog fd_k74 [(56,C_k78),(125,C_k77)] []:=known_of mixT (by kernel_rfl) ⟨ok_k78,ok_k77,trivial⟩ trivial
theorem fn_k74:FnOK Try.prog an_k74 117 Try.f117 fd_k74:=fnOK (by kernel_rfl) (by kernel_rfl) (by kernel_rfl)
theorem ok_k74:ConOK Try.prog 117 C_k74:=con_ofU k_k74 (byRef:=br_k74) [(3,7)] fn_k74 rc_k74 args_k74 mem_k74 outs_k74 (fun a b K=>tree_k74 F_k78 F_k77 a.1.1 a.1.2.1 a.1.2.2.1 a.1.2.2.2.1 a.1.2.2.2.2.1 a.1.2.2.2.2.2.1 K) (fun a b=>h_k74 F_k78 F_k77 _ _ _ _ _ _ _) (fun a b K=>n_k74 F_k78 F_k77 _ _ _ _ _ _ K)
def an_k68:Nat→LAnn:=fun n=>(find n [(3,⟨3,[0,2,4,13],[],[0,3,5,6,7,8,13,14,15,16,17,18,19,20,21,22,23,24,25,26,27,28,29],[0,2,3,4]⟩)]).getD ⟨0,[],[],[],[]⟩
noncomputable def fd_k68:FD:=fdOf Try.prog an_k68 Try.f76
def br_k68:FuncId→CC:=fun f=>⟨([]:List Nat).contains f,(find f []).getD [],(find f []).getD []⟩
def rc_k68:RC:=⟨true,[],[]⟩
theorem h_k68 (F_k80:B_k80) (F_k79:B_k79) (F_k75:B_k75) x1 {α:Type} (K:SV→Mem→Option α):callBody ((table [(90,⟨args_k80,mem_k80,outs_k80,F_k80⟩),(95,⟨args_k79,mem_k79,outs_k79,F_k79⟩),(96,⟨args_k75,mem_k75,outs_k75,F_k75⟩)] []).unroll br_k68 [(3,7)]) br_k68 rc_k68 fd_k68 (args_k68.svs (x1,())) (mem_k68.mem ()) K = tree_k68 F_k80 F_k79 F_k75 x1 (fun r=>outsRun outs_k68 r K):=by kernel_rfl
noncomputable def C_k68:Con:=⟨args_k68,mem_k68,outs_k68,F_k68⟩
theorem k_k68:Known Try.prog fd_k68 [(90,C_k80),(95,C_k79),(96,C_k75)] []:=known_of mixT (by kernel_rfl) ⟨ok_k80,ok_k79,ok_k75,trivial⟩ trivial
theorem fn_k68:FnOK Try.prog an_k68 76 Try.f76 fd_k68:=fnOK (by kernel_rfl) (by kernel_rfl) (by kernel_rfl)
theorem ok_k68:ConOK Try.prog 76 C_k68:=con_ofU k_k68 (byRef:=br_k68) [(3,7)] fn_k68 rc_k68 args_k68 mem_k68 outs_k68 (fun a b K=>tree_k68 F_k80 F_k79 F_k75 a.1 K) (fun a b=>h_k68 F_k80 F_k79 F_k75 _ _) (fun a b K=>n_k68 F_k80 F_k79 F_k75 _ K)
def an_k67:Nat→LAnn:=fun n=>(find n []).getD ⟨0,[],[],[],[]⟩
noncomputable def fd_k67:FD:=fdOf Try.prog an_k67 Try.f59
def br_k67:FuncId→CC:=fun f=>⟨([83]:List Nat).contains f,(find f [(83,[0,1,2,3,4,5,6,7,8,9,10,11])]).getD [],(find f [(83,[(0,2,196,.cons (.int .i64) (.cons .str .nil))])]).getD []⟩
def rc_k67:RC:=⟨false,[(2,2,196,.cons (.int .i64) (.cons .str .nil))],[]⟩
theorem h_k67 (F_k6:B_k6) x1 x2 x3 {α:Type} (K:SV→Mem→Option α):callBody (table [(83,⟨args_k6,mem_k6,outs_k6,F_k6⟩)] []) br_k67 rc_k67 fd_k67 (args_k67.svs ()) (mem_k67.mem ((x1,()),x2,x3,())) K = tree_k67 F_k6 x1 x2 x3 (fun r=>outsRun outs_k67 r K):=by kernel_rfl
noncomputable def C_k67:Con:=⟨args_k67,mem_k67,outs_k67,F_k67⟩
theorem k_k67:Known Try.prog fd_k67 [(83,C_k6)] []:=known_of mixT (by kernel_rfl) ⟨ok_k6,trivial⟩ trivial
theorem fn_k67:FnOK Try.prog an_k67 59 Try.f59 fd_k67:=fnOK (by kernel_rfl) (by kernel_rfl) (by kernel_rfl)
theorem ok_k67:ConOK Try.prog 59 C_k67:=con_of k_k67 (byRef:=br_k67) fn_k67 rc_k67 args_k67 mem_k67 outs_k67 (fun a b K=>tree_k67 F_k6 b.1.1 b.2.1 b.2.2.1 K) (fun a b=>h_k67 F_k6 _ _ _ _) (fun a b K=>n_k67 F_k6 _ _ _ K)
def an_k72:Nat→LAnn:=fun n=>(find n []).getD ⟨0,[],[],[],[]⟩
noncomputable def fd_k72:FD:=fdOf Try.prog an_k72 Try.f46
def br_k72:FuncId→CC:=fun f=>⟨([75]:List Nat).contains f,(find f [(75,[0,1,2,3,4,5,6,7,8,9,10,11])]).getD [],(find f [(75,[(0,2,196,.cons (.int .i64) (.cons .str .nil))])]).getD []⟩
def rc_k72:RC:=⟨true,[(3,2,196,.cons (.int .i64) (.cons .str .nil))],[]⟩
theorem h_k72 (F_k60:B_k60) (F_k68:B_k68) x1 x2 x3 {α:Type} (K:SV→Mem→Option α):callBody (table [(75,⟨args_k60,mem_k60,outs_k60,F_k60⟩),(76,⟨args_k68,mem_k68,outs_k68,F_k68⟩)] []) br_k72 rc_k72 fd_k72 (args_k72.svs ()) (mem_k72.mem ((),(x1,()),x2,x3,())) K = tree_k72 F_k60 F_k68 x1 x2 x3 (fun r=>outsRun routs_k72 r K):=by kernel_rfl
noncomputable def C_k72:Con:=⟨args_k72,mem_k72,outs_k72,F_k72⟩
theorem k_k72:Known Try.prog fd_k72 [(75,C_k60),(76,C_k68)] []:=known_of mixT (by kernel_rfl) ⟨ok_k60,ok_k68,trivial⟩ trivial
theorem fn_k72:FnOK Try.prog an_k72 46 Try.f46 fd_k72:=fnOK (by kernel_rfl) (by kernel_rfl) (by kernel_rfl)
noncomputable def CR_k72:Con:=⟨args_k72,mem_k72,routs_k72,R_k72⟩
theorem okr_k72:ConOK Try.prog 46 CR_k72:=con_of k_k72 (byRef:=br_k72) fn_k72 rc_k72 args_k72 mem_k72 routs_k72 (fun a b K=>tree_k72 F_k60 F_k68 b.2.1.1 b.2.2.1 b.2.2.2.1 K) (fun a b=>h_k72 F_k60 F_k68 _ _ _ _) (fun a b K=>n_k72 F_k60 F_k68 _ _ _ K)
theorem ok_k72:ConOK Try.prog 46 C_k72:=con_reads okr_k72 (by rfl) reads_k72
def an_k73:Nat→LAnn:=fun n=>(find n []).getD ⟨0,[],[],[],[]⟩
noncomputable def fd_k73:FD:=fdOf Try.prog an_k73 Try.f106
def br_k73:FuncId→CC:=fun f=>⟨([116]:List Nat).contains f,(find f [(116,[0,1,2,3,4,5,6,7,8,9,10,11])]).getD [],(find f [(116,[(0,2,196,.cons (.int .i64) (.cons .str .nil))])]).getD []⟩
def rc_k73:RC:=⟨false,[(2,2,196,.cons (.int .i64) (.cons .str .nil))],[(2,2,3)]⟩
theorem h_k73 (F_k74:B_k74) (F_k61:B_k61) x1 x2 x3 x4 x5 x6 x7 x8 x9 {α:Type} (K:SV→Mem→Option α):callBody (table [(117,⟨args_k74,mem_k74,outs_k74,F_k74⟩),(116,⟨args_k61,mem_k61,outs_k61,F_k61⟩)] []) br_k73 rc_k73 fd_k73 (args_k73.svs ((x1,x2,x3,x4,x5,x6,()),())) (mem_k73.mem ((),(x7,()),x8,x9,())) K = tree_k73 F_k74 F_k61 x1 x2 x3 x4 x5 x6 x7 x8 x9 (fun r=>outsRun outs_k73 r K):=by kernel_rfl
noncomputable def C_k73:Con:=⟨args_k73,mem_k73,outs_k73,F_k73⟩
theorem k_k73:Known Try.prog fd_k73 [(117,C_k74),(116,C_k61)] []:=known_of mixT (by kernel_rfl) ⟨ok_k74,ok_k61,trivial⟩ trivial
theorem fn_k73:FnOK Try.prog an_k73 106 Try.f106 fd_k73:=fnOK (by kernel_rfl) (by kernel_rfl) (by kernel_rfl)
theorem ok_k73:ConOK Try.prog 106 C_k73:=con_of k_k73 (byRef:=br_k73) fn_k73 rc_k73 args_k73 mem_k73 outs_k73 (fun a b K=>tree_k73 F_k74 F_k61 a.1.1 a.1.2.1 a.1.2.2.1 a.1.2.2.2.1 a.1.2.2.2.2.1 a.1.2.2.2.2.2.1 b.2.1.1 b.2.2.1 b.2.2.2.1 K) (fun a b=>h_k73 F_k74 F_k61 _ _ _ _ _ _ _ _ _ _) (fun a b K=>n_k73 F_k74 F_k61 _ _ _ _ _ _ _ _ _ K)
def an_k70:Nat→LAnn:=fun n=>(find n []).getD ⟨0,[],[],[],[]⟩
noncomputable def fd_k70:FD:=fdOf Try.prog an_k70 Try.f84
def br_k70:FuncId→CC:=fun f=>⟨([106]:List Nat).contains f,(find f [(106,[0,1,2,3,4,5,6,7,8,9,10,11])]).getD [],(find f []).getD []⟩
def rc_k70:RC:=⟨false,[(2,2,196,.cons (.int .i64) (.cons .str .nil))],[(2,2,3)]⟩
theorem h_k70 (F_k73:B_k73) x1 x2 x3 x4 {α:Type} (K:SV→Mem→Option α):callBody (table [(106,⟨args_k73,mem_k73,outs_k73,F_k73⟩)] []) br_k70 rc_k70 fd_k70 (args_k70.svs (x1,())) (mem_k70.mem ((),(x2,()),x3,x4,())) K = tree_k70 F_k73 x1 x2 x3 x4 (fun r=>outsRun outs_k70 r K):=by kernel_rfl
noncomputable def C_k70:Con:=⟨args_k70,mem_k70,outs_k70,F_k70⟩
theorem k_k70:Known Try.prog fd_k70 [(106,C_k73)] []:=known_of mixT (by kernel_rfl) ⟨ok_k73,trivial⟩ trivial
theorem fn_k70:FnOK Try.prog an_k70 84 Try.f84 fd_k70:=fnOK (by kernel_rfl) (by kernel_rfl) (by kernel_rfl)
theorem ok_k70:ConOK Try.prog 84 C_k70:=con_of k_k70 (byRef:=br_k70) fn_k70 rc_k70 args_k70 mem_k70 outs_k70 (fun a b K=>tree_k70 F_k73 a.1 b.2.1.1 b.2.2.1 b.2.2.2.1 K) (fun a b=>h_k70 F_k73 _ _ _ _ _) (fun a b K=>n_k70 F_k73 _ _ _ _ K)
def an_k69:Nat→LAnn:=fun n=>(find n []).getD ⟨0,[],[],[],[]⟩
noncomputable def fd_k69:FD:=fdOf Try.prog an_k69 Try.f85
def br_k69:FuncId→CC:=fun f=>⟨([46,106]:List Nat).contains f,(find f [(46,[0,1,2,3,4,5,6,7,8,9,10,11]),(106,[0,1,2,3,4,5,6,7,8,9,10,11])]).getD [],(find f []).getD []⟩
def rc_k69:RC:=⟨false,[(2,2,196,.cons (.int .i64) (.cons .str .nil))],[(2,2,3)]⟩
theorem h_k69 (F_k72:B_k72) (F_k73:B_k73) x1 x2 x3 x4 x5 x6 {α:Type} (K:SV→Mem→Option α):callBody (table [(46,⟨args_k72,mem_k72,outs_k72,F_k72⟩),(106,⟨args_k73,mem_k73,outs_k73,F_k73⟩)] []) br_k69 rc_k69 fd_k69 (args_k69.svs (x1,x2,x3,())) (mem_k69.mem ((),(x4,()),x5,x6,())) K = tree_k69 F_k72 F_k73 x1 x2 x3 x4 x5 x6 (fun r=>outsRun outs_k69 r K):=by kernel_rfl
noncomputable def C_k69:Con:=⟨args_k69,mem_k69,outs_k69,F_k69⟩
theorem k_k69:Known Try.prog fd_k69 [(46,C_k72),(106,C_k73)] []:=known_of mixT (by kernel_rfl) ⟨ok_k72,ok_k73,trivial⟩ trivial
theorem fn_k69:FnOK Try.prog an_k69 85 Try.f85 fd_k69:=fnOK (by kernel_rfl) (by kernel_rfl) (by kernel_rfl)
theorem ok_k69:ConOK Try.prog 85 C_k69:=con_of k_k69 (byRef:=br_k69) fn_k69 rc_k69 args_k69 mem_k69 outs_k69 (fun a b K=>tree_k69 F_k72 F_k73 a.1 a.2.1 a.2.2.1 b.2.1.1 b.2.2.1 b.2.2.2.1 K) (fun a b=>h_k69 F_k72 F_k73 _ _ _ _ _ _ _) (fun a b K=>n_k69 F_k72 F_k73 _ _ _ _ _ _ K)
def an_k71:Nat→LAnn:=fun n=>(find n []).getD ⟨0,[],[],[],[]⟩
noncomputable def fd_k71:FD:=fdOf Try.prog an_k71 Try.f89
def br_k71:FuncId→CC:=fun f=>⟨([46,106]:List Nat).contains f,(find f [(46,[0,1,2,3,4,5,6,7,8,9,10,11]),(106,[0,1,2,3,4,5,6,7,8,9,10,11])]).getD [],(find f []).getD []⟩
def rc_k71:RC:=⟨false,[(2,2,196,.cons (.int .i64) (.cons .str .nil))],[(2,2,3)]⟩
theorem h_k71 (F_k72:B_k72) (F_k73:B_k73) x1 x2 x3 x4 {α:Type} (K:SV→Mem→Option α):callBody (table [(46,⟨args_k72,mem_k72,outs_k72,F_k72⟩),(106,⟨args_k73,mem_k73,outs_k73,F_k73⟩)] []) br_k71 rc_k71 fd_k71 (args_k71.svs (x1,())) (mem_k71.mem ((),(x2,()),x3,x4,())) K = tree_k71 F_k72 F_k73 x1 x2 x3 x4 (fun r=>outsRun outs_k71 r K):=by kernel_rfl
noncomputable def C_k71:Con:=⟨args_k71,mem_k71,outs_k71,F_k71⟩
theorem k_k71:Known Try.prog fd_k71 [(46,C_k72),(106,C_k73)] []:=known_of mixT (by kernel_rfl) ⟨ok_k72,ok_k73,trivial⟩ trivial
theorem fn_k71:FnOK Try.prog an_k71 89 Try.f89 fd_k71:=fnOK (by kernel_rfl) (by kernel_rfl) (by kernel_rfl)
theorem ok_k71:ConOK Try.prog 89 C_k71:=con_of k_k71 (byRef:=br_k71) fn_k71 rc_k71 args_k71 mem_k71 outs_k71 (fun a b K=>tree_k71 F_k72 F_k73 a.1 b.2.1.1 b.2.2.1 b.2.2.2.1 K) (fun a b=>h_k71 F_k72 F_k73 _ _ _ _ _) (fun a b K=>n_k71 F_k72 F_k73 _ _ _ _ K)
end Go.Proofs.Ytljfdfghagiblaa.S2
