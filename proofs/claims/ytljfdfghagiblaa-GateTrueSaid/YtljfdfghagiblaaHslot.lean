/- The program's functions come to their plain forms,by program. -/
import Derived.Test.YtljfdfghagiblaaGslot
import Derived.Test.YtljfdfghagiblaaHdisk
set_option maxRecDepth 100000
set_option maxHeartbeats 0
set_option linter.unusedVariables false
set_option linter.unusedSimpArgs false
namespace Go.Proofs.Ytljfdfghagiblaa.S2
open Go
def an_k66:Nat→LAnn:=fun n=>(find n []).getD ⟨0,[],[],[],[]⟩
noncomputable def fd_k66:FD:=fdOf Try.prog an_k66 Try.f119
def br_k66:FuncId→CC:=fun f=>⟨([]:List Nat).contains f,(find f []).getD [],(find f []).getD []⟩
def rc_k66:RC:=⟨true,[],[]⟩
theorem h_k66 x1 {α:Type} (K:SV→Mem→Option α):callBody (table [] []) br_k66 rc_k66 fd_k66 (args_k66.svs (x1,())) (mem_k66.mem ()) K = tree_k66 x1 (fun r=>outsRun outs_k66 r K):=by kernel_rfl
noncomputable def C_k66:Con:=⟨args_k66,mem_k66,outs_k66,F_k66⟩
theorem k_k66:Known Try.prog fd_k66 [] []:=known_of mixT (by kernel_rfl) trivial trivial
theorem fn_k66:FnOK Try.prog an_k66 119 Try.f119 fd_k66:=fnOK (by kernel_rfl) (by kernel_rfl) (by kernel_rfl)
theorem ok_k66:ConOK Try.prog 119 C_k66:=con_of k_k66 (byRef:=br_k66) fn_k66 rc_k66 args_k66 mem_k66 outs_k66 (fun a b K=>tree_k66 a.1 K) (fun a b=>h_k66 _ _) (fun a b K=>n_k66 _ K)
def an_k63:Nat→LAnn:=fun n=>(find n [(3,⟨3,[0,3,5],[],[4,5,6,7,8,9,10,11,12,13,14,15,16],[3]⟩)]).getD ⟨0,[],[],[],[]⟩
noncomputable def fd_k63:FD:=fdOf Try.prog an_k63 Try.f131
def br_k63:FuncId→CC:=fun f=>⟨([]:List Nat).contains f,(find f []).getD [],(find f []).getD []⟩
def rc_k63:RC:=⟨true,[],[]⟩
theorem h_k63 x1 {α:Type} (K:SV→Mem→Option α):callBody ((table [] []).unroll br_k63 [(3,9)]) br_k63 rc_k63 fd_k63 (args_k63.svs (x1,())) (mem_k63.mem ()) K = tree_k63 x1 (fun r=>outsRun outs_k63 r K):=by kernel_rfl
noncomputable def C_k63:Con:=⟨args_k63,mem_k63,outs_k63,F_k63⟩
theorem k_k63:Known Try.prog fd_k63 [] []:=known_of mixT (by kernel_rfl) trivial trivial
theorem fn_k63:FnOK Try.prog an_k63 131 Try.f131 fd_k63:=fnOK (by kernel_rfl) (by kernel_rfl) (by kernel_rfl)
theorem ok_k63:ConOK Try.prog 131 C_k63:=con_ofU k_k63 (byRef:=br_k63) [(3,9)] fn_k63 rc_k63 args_k63 mem_k63 outs_k63 (fun a b K=>tree_k63 a.1 K) (fun a b=>h_k63 _ _) (fun a b K=>n_k63 _ K)
def an_k65:Nat→LAnn:=fun n=>(find n [(3,⟨3,[0,3,6,7],[],[3,4,7,8,9,10,11,12,13,14,15,16,17],[3]⟩)]).getD ⟨0,[],[],[],[]⟩
noncomputable def fd_k65:FD:=fdOf Try.prog an_k65 Try.f120
def br_k65:FuncId→CC:=fun f=>⟨([]:List Nat).contains f,(find f []).getD [],(find f []).getD []⟩
def rc_k65:RC:=⟨true,[],[]⟩
theorem hl_k65_3 (x1:ByteArray) (x2:Int) (x3:Int) (x4:Int) {α:Type} (kn:St→Option α) (K:Out→St→Option α):round (table [] []) br_k65 (an_k65 3) (fd_k65.loop 3) kn ⟨ltmps_k65_3.svs (x1,x2,x3,x4,()),lmem_k65_3.mem ()⟩ K = ltree_k65_3 x1 x2 x3 x4 (fun a b=>kn ⟨ltmps_k65_3.svs a,lmem_k65_3.mem b⟩) (fun r=>outLsRun louts_k65_3 r K):=by kernel_rfl
noncomputable def D_k65_3:LCon:=⟨ltmps_k65_3,lmem_k65_3,louts_k65_3,L_k65_3⟩
theorem kl_k65_3:Known Try.prog fd_k65 [] []:=known_of mixT (by kernel_rfl) trivial trivial
theorem okl_k65_3:LConOK Try.prog (fd_k65.loop 3) D_k65_3:=lcon_of kl_k65_3 (byRef:=br_k65) (lan:=an_k65 3) (id:=3) (by kernel_rfl) ltmps_k65_3 lmem_k65_3 louts_k65_3 (fun a b kn kr=>ltree_k65_3 a.1 a.2.1 a.2.2.1 a.2.2.2.1 kn kr) (fun a b=>hl_k65_3 a.1 a.2.1 a.2.2.1 a.2.2.2.1 _ _) (fun a b kn kr=>nl_k65_3 a.1 a.2.1 a.2.2.1 a.2.2.2.1 kn kr)
theorem h_k65 (L_k65_3:LT_k65_3→LM_k65_3→Option LO_k65_3) x1 {α:Type} (K:SV→Mem→Option α):callBody (table [] [(3,⟨ltmps_k65_3,lmem_k65_3,louts_k65_3,L_k65_3⟩)]) br_k65 rc_k65 fd_k65 (args_k65.svs (x1,())) (mem_k65.mem ()) K = tree_k65 L_k65_3 x1 (fun r=>outsRun outs_k65 r K):=by kernel_rfl
noncomputable def C_k65:Con:=⟨args_k65,mem_k65,outs_k65,F_k65⟩
theorem k_k65:Known Try.prog fd_k65 [] [(3,D_k65_3)]:=known_of mixT (by kernel_rfl) trivial ⟨okl_k65_3,trivial⟩
theorem fn_k65:FnOK Try.prog an_k65 120 Try.f120 fd_k65:=fnOK (by kernel_rfl) (by kernel_rfl) (by kernel_rfl)
theorem ok_k65:ConOK Try.prog 120 C_k65:=con_of k_k65 (byRef:=br_k65) fn_k65 rc_k65 args_k65 mem_k65 outs_k65 (fun a b K=>tree_k65 L_k65_3 a.1 K) (fun a b=>h_k65 L_k65_3 _ _) (fun a b K=>n_k65 L_k65_3 _ K)
def an_k59:Nat→LAnn:=fun n=>(find n []).getD ⟨0,[],[],[],[]⟩
noncomputable def fd_k59:FD:=fdOf Try.prog an_k59 Try.f127
def br_k59:FuncId→CC:=fun f=>⟨([]:List Nat).contains f,(find f []).getD [],(find f []).getD []⟩
def rc_k59:RC:=⟨true,[],[]⟩
theorem h_k59 (F_k66:B_k66) (F_k63:B_k63) (F_k76:B_k76) x1 x2 x3 {α:Type} (K:SV→Mem→Option α):callBody (table [(119,⟨args_k66,mem_k66,outs_k66,F_k66⟩),(131,⟨args_k63,mem_k63,outs_k63,F_k63⟩),(82,⟨args_k76,mem_k76,outs_k76,F_k76⟩)] []) br_k59 rc_k59 fd_k59 (args_k59.svs (x1,x2,x3,())) (mem_k59.mem ()) K = tree_k59 F_k66 F_k63 F_k76 x1 x2 x3 (fun r=>outsRun outs_k59 r K):=by kernel_rfl
noncomputable def C_k59:Con:=⟨args_k59,mem_k59,outs_k59,F_k59⟩
theorem k_k59:Known Try.prog fd_k59 [(119,C_k66),(131,C_k63),(82,C_k76)] []:=known_of mixT (by kernel_rfl) ⟨ok_k66,ok_k63,ok_k76,trivial⟩ trivial
theorem fn_k59:FnOK Try.prog an_k59 127 Try.f127 fd_k59:=fnOK (by kernel_rfl) (by kernel_rfl) (by kernel_rfl)
theorem ok_k59:ConOK Try.prog 127 C_k59:=con_of k_k59 (byRef:=br_k59) fn_k59 rc_k59 args_k59 mem_k59 outs_k59 (fun a b K=>tree_k59 F_k66 F_k63 F_k76 a.1 a.2.1 a.2.2.1 K) (fun a b=>h_k59 F_k66 F_k63 F_k76 _ _ _ _) (fun a b K=>n_k59 F_k66 F_k63 F_k76 _ _ _ K)
def an_k62:Nat→LAnn:=fun n=>(find n []).getD ⟨0,[],[],[],[]⟩
noncomputable def fd_k62:FD:=fdOf Try.prog an_k62 Try.f108
def br_k62:FuncId→CC:=fun f=>⟨([]:List Nat).contains f,(find f []).getD [],(find f []).getD []⟩
def rc_k62:RC:=⟨true,[],[]⟩
theorem h_k62 (F_k66:B_k66) (F_k65:B_k65) x1 {α:Type} (K:SV→Mem→Option α):callBody (table [(119,⟨args_k66,mem_k66,outs_k66,F_k66⟩),(120,⟨args_k65,mem_k65,outs_k65,F_k65⟩)] []) br_k62 rc_k62 fd_k62 (args_k62.svs (x1,())) (mem_k62.mem ()) K = tree_k62 F_k66 F_k65 x1 (fun r=>outsRun outs_k62 r K):=by kernel_rfl
noncomputable def C_k62:Con:=⟨args_k62,mem_k62,outs_k62,F_k62⟩
theorem k_k62:Known Try.prog fd_k62 [(119,C_k66),(120,C_k65)] []:=known_of mixT (by kernel_rfl) ⟨ok_k66,ok_k65,trivial⟩ trivial
theorem fn_k62:FnOK Try.prog an_k62 108 Try.f108 fd_k62:=fnOK (by kernel_rfl) (by kernel_rfl) (by kernel_rfl)
theorem ok_k62:ConOK Try.prog 108 C_k62:=con_of k_k62 (byRef:=br_k62) fn_k62 rc_k62 args_k62 mem_k62 outs_k62 (fun a b K=>tree_k62 F_k66 F_k65 a.1 K) (fun a b=>h_k62 F_k66 F_k65 _ _) (fun a b K=>n_k62 F_k66 F_k65 _ K)
def an_k64:Nat→LAnn:=fun n=>(find n []).getD ⟨0,[],[],[],[]⟩
noncomputable def fd_k64:FD:=fdOf Try.prog an_k64 Try.f94
def br_k64:FuncId→CC:=fun f=>⟨([107]:List Nat).contains f,(find f [(107,[0,1,2,3,4,5,6,7,8,9,10,11])]).getD [],(find f [(107,[(0,2,196,.cons (.int .i64) (.cons .str .nil))])]).getD []⟩
def rc_k64:RC:=⟨true,[(3,2,196,.cons (.int .i64) (.cons .str .nil))],[]⟩
theorem h_k64 (F_k4:B_k4) (F_k62:B_k62) x1 x2 x3 x4 x5 {α:Type} (K:SV→Mem→Option α):callBody (table [(107,⟨args_k4,mem_k4,outs_k4,F_k4⟩),(108,⟨args_k62,mem_k62,outs_k62,F_k62⟩)] []) br_k64 rc_k64 fd_k64 (args_k64.svs (x1,x2,())) (mem_k64.mem ((x3,()),x4,x5,())) K = tree_k64 F_k4 F_k62 x1 x2 x3 x4 x5 (fun r=>outsRun routs_k64 r K):=by kernel_rfl
noncomputable def C_k64:Con:=⟨args_k64,mem_k64,outs_k64,F_k64⟩
theorem k_k64:Known Try.prog fd_k64 [(107,C_k4),(108,C_k62)] []:=known_of mixT (by kernel_rfl) ⟨ok_k4,ok_k62,trivial⟩ trivial
theorem fn_k64:FnOK Try.prog an_k64 94 Try.f94 fd_k64:=fnOK (by kernel_rfl) (by kernel_rfl) (by kernel_rfl)
noncomputable def CR_k64:Con:=⟨args_k64,mem_k64,routs_k64,R_k64⟩
theorem okr_k64:ConOK Try.prog 94 CR_k64:=con_of k_k64 (byRef:=br_k64) fn_k64 rc_k64 args_k64 mem_k64 routs_k64 (fun a b K=>tree_k64 F_k4 F_k62 a.1 a.2.1 b.1.1 b.2.1 b.2.2.1 K) (fun a b=>h_k64 F_k4 F_k62 _ _ _ _ _ _) (fun a b K=>n_k64 F_k4 F_k62 _ _ _ _ _ K)
theorem ok_k64:ConOK Try.prog 94 C_k64:=con_reads okr_k64 (by rfl) reads_k64
def an_k60:Nat→LAnn:=fun n=>(find n []).getD ⟨0,[],[],[],[]⟩
noncomputable def fd_k60:FD:=fdOf Try.prog an_k60 Try.f75
def br_k60:FuncId→CC:=fun f=>⟨([94]:List Nat).contains f,(find f [(94,[0,1,2,3,4,5,6,7,8,9,10,11])]).getD [],(find f [(94,[(0,2,196,.cons (.int .i64) (.cons .str .nil))])]).getD []⟩
def rc_k60:RC:=⟨true,[(2,2,196,.cons (.int .i64) (.cons .str .nil))],[]⟩
theorem h_k60 (F_k64:B_k64) x1 x2 x3 x4 x5 {α:Type} (K:SV→Mem→Option α):callBody (table [(94,⟨args_k64,mem_k64,outs_k64,F_k64⟩)] []) br_k60 rc_k60 fd_k60 (args_k60.svs (x1,x2,())) (mem_k60.mem ((x3,()),x4,x5,())) K = tree_k60 F_k64 x1 x2 x3 x4 x5 (fun r=>outsRun routs_k60 r K):=by kernel_rfl
noncomputable def C_k60:Con:=⟨args_k60,mem_k60,outs_k60,F_k60⟩
theorem k_k60:Known Try.prog fd_k60 [(94,C_k64)] []:=known_of mixT (by kernel_rfl) ⟨ok_k64,trivial⟩ trivial
theorem fn_k60:FnOK Try.prog an_k60 75 Try.f75 fd_k60:=fnOK (by kernel_rfl) (by kernel_rfl) (by kernel_rfl)
noncomputable def CR_k60:Con:=⟨args_k60,mem_k60,routs_k60,R_k60⟩
theorem okr_k60:ConOK Try.prog 75 CR_k60:=con_of k_k60 (byRef:=br_k60) fn_k60 rc_k60 args_k60 mem_k60 routs_k60 (fun a b K=>tree_k60 F_k64 a.1 a.2.1 b.1.1 b.2.1 b.2.2.1 K) (fun a b=>h_k60 F_k64 _ _ _ _ _ _) (fun a b K=>n_k60 F_k64 _ _ _ _ _ K)
theorem ok_k60:ConOK Try.prog 75 C_k60:=con_reads okr_k60 (by rfl) reads_k60
def an_k58:Nat→LAnn:=fun n=>(find n []).getD ⟨0,[],[],[],[]⟩
noncomputable def fd_k58:FD:=fdOf Try.prog an_k58 Try.f123
def br_k58:FuncId→CC:=fun f=>⟨([83,94,128,129]:List Nat).contains f,(find f [(83,[0,1,2,3,4,5,6,7,8,9,10,11]),(94,[0,1,2,3,4,5,6,7,8,9,10,11]),(128,[0,1,2,3,4,5,6,7,8,9,10,11]),(129,[0,1,2,3,4,5,6,7,8,9,10,11])]).getD [],(find f [(83,[(0,2,196,.cons (.int .i64) (.cons .str .nil))]),(94,[(0,2,196,.cons (.int .i64) (.cons .str .nil))]),(128,[(0,2,196,.cons (.int .i64) (.cons .str .nil))]),(129,[(0,2,196,.cons (.int .i64) (.cons .str .nil))])]).getD []⟩
def rc_k58:RC:=⟨false,[(1,2,196,.cons (.int .i64) (.cons .str .nil))],[(1,2,2)]⟩
theorem h_k58 (F_k6:B_k6) (F_k64:B_k64) (F_k7:B_k7) (F_k59:B_k59) (F_k8:B_k8) x1 x2 x3 x4 x5 x6 {α:Type} (K:SV→Mem→Option α):callBody (table [(83,⟨args_k6,mem_k6,outs_k6,F_k6⟩),(94,⟨args_k64,mem_k64,outs_k64,F_k64⟩),(128,⟨args_k7,mem_k7,outs_k7,F_k7⟩),(127,⟨args_k59,mem_k59,outs_k59,F_k59⟩),(129,⟨args_k8,mem_k8,outs_k8,F_k8⟩)] []) br_k58 rc_k58 fd_k58 (args_k58.svs (x1,x2,x3,())) (mem_k58.mem ((x4,()),x5,x6,())) K = tree_k58 F_k6 F_k64 F_k7 F_k59 F_k8 x1 x2 x3 x4 x5 x6 (fun r=>outsRun outs_k58 r K):=by kernel_rfl
noncomputable def C_k58:Con:=⟨args_k58,mem_k58,outs_k58,F_k58⟩
theorem k_k58:Known Try.prog fd_k58 [(83,C_k6),(94,C_k64),(128,C_k7),(127,C_k59),(129,C_k8)] []:=known_of mixT (by kernel_rfl) ⟨ok_k6,ok_k64,ok_k7,ok_k59,ok_k8,trivial⟩ trivial
theorem fn_k58:FnOK Try.prog an_k58 123 Try.f123 fd_k58:=fnOK (by kernel_rfl) (by kernel_rfl) (by kernel_rfl)
theorem ok_k58:ConOK Try.prog 123 C_k58:=con_of k_k58 (byRef:=br_k58) fn_k58 rc_k58 args_k58 mem_k58 outs_k58 (fun a b K=>tree_k58 F_k6 F_k64 F_k7 F_k59 F_k8 a.1 a.2.1 a.2.2.1 b.1.1 b.2.1 b.2.2.1 K) (fun a b=>h_k58 F_k6 F_k64 F_k7 F_k59 F_k8 _ _ _ _ _ _ _) (fun a b K=>n_k58 F_k6 F_k64 F_k7 F_k59 F_k8 _ _ _ _ _ _ K)
def an_k61:Nat→LAnn:=fun n=>(find n []).getD ⟨0,[],[],[],[]⟩
noncomputable def fd_k61:FD:=fdOf Try.prog an_k61 Try.f116
def br_k61:FuncId→CC:=fun f=>⟨([123,124]:List Nat).contains f,(find f [(123,[0,1,2,3,4,5,6,7,8,9,10,11]),(124,[0,1,2,3,4,5,6,7,8,9,10,11])]).getD [],(find f [(123,[(0,2,196,.cons (.int .i64) (.cons .str .nil))]),(124,[(0,2,196,.cons (.int .i64) (.cons .str .nil))])]).getD []⟩
def rc_k61:RC:=⟨false,[(1,2,196,.cons (.int .i64) (.cons .str .nil))],[(1,2,2)]⟩
theorem h_k61 (F_k58:B_k58) (F_k2:B_k2) x1 x2 x3 x4 x5 x6 {α:Type} (K:SV→Mem→Option α):callBody (table [(123,⟨args_k58,mem_k58,outs_k58,F_k58⟩),(124,⟨args_k2,mem_k2,outs_k2,F_k2⟩)] []) br_k61 rc_k61 fd_k61 (args_k61.svs (x1,x2,x3,())) (mem_k61.mem ((x4,()),x5,x6,())) K = tree_k61 F_k58 F_k2 x1 x2 x3 x4 x5 x6 (fun r=>outsRun outs_k61 r K):=by kernel_rfl
noncomputable def C_k61:Con:=⟨args_k61,mem_k61,outs_k61,F_k61⟩
theorem k_k61:Known Try.prog fd_k61 [(123,C_k58),(124,C_k2)] []:=known_of mixT (by kernel_rfl) ⟨ok_k58,ok_k2,trivial⟩ trivial
theorem fn_k61:FnOK Try.prog an_k61 116 Try.f116 fd_k61:=fnOK (by kernel_rfl) (by kernel_rfl) (by kernel_rfl)
theorem ok_k61:ConOK Try.prog 116 C_k61:=con_of k_k61 (byRef:=br_k61) fn_k61 rc_k61 args_k61 mem_k61 outs_k61 (fun a b K=>tree_k61 F_k58 F_k2 a.1 a.2.1 a.2.2.1 b.1.1 b.2.1 b.2.2.1 K) (fun a b=>h_k61 F_k58 F_k2 _ _ _ _ _ _ _) (fun a b K=>n_k61 F_k58 F_k2 _ _ _ _ _ _ K)
end Go.Proofs.Ytljfdfghagiblaa.S2
