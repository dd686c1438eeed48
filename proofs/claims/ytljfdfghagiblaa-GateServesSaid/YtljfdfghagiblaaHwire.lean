/- The program's functions come to their plain forms,by program. -/
import Derived.Test.YtljfdfghagiblaaGwire
import Derived.Test.YtljfdfghagiblaaHbase
set_option maxRecDepth 100000
set_option maxHeartbeats 0
set_option linter.unusedVariables false
set_option linter.unusedSimpArgs false
namespace Go.Proofs.Ytljfdfghagiblaa.S2
open Go
def an_k76:Nat→LAnn:=fun n=>(find n [(1,⟨1,[0,1],[(.slot 0,500,5,.cons (.int .u8) .nil)],[0,1,5,6,7,8,9,10,11,12,13,14],[0,1]⟩)]).getD ⟨0,[],[],[],[]⟩
noncomputable def fd_k76:FD:=fdOf Try.prog an_k76 Try.f81
def br_k76:FuncId→CC:=fun f=>⟨([]:List Nat).contains f,(find f []).getD [],(find f []).getD []⟩
def rc_k76:RC:=⟨true,[],[]⟩
theorem hl_k76_1 (x1:Int) (x2:List Int) {α:Type} (kn:St→Option α) (K:Out→St→Option α):round (table [] []) br_k76 (an_k76 1) (fd_k76.loop 1) kn ⟨ltmps_k76_1.svs (x1,()),lmem_k76_1.mem (x2,())⟩ K = ltree_k76_1 x1 x2 (fun a b=>kn ⟨ltmps_k76_1.svs a,lmem_k76_1.mem b⟩) (fun r=>outLsRun louts_k76_1 r K):=by kernel_rfl
noncomputable def D_k76_1:LCon:=⟨ltmps_k76_1,lmem_k76_1,louts_k76_1,L_k76_1⟩
theorem kl_k76_1:Known Try.prog fd_k76 [] []:=known_of mixT (by kernel_rfl) trivial trivial
theorem okl_k76_1:LConOK Try.prog (fd_k76.loop 1) D_k76_1:=lcon_of kl_k76_1 (byRef:=br_k76) (lan:=an_k76 1) (id:=1) (by kernel_rfl) ltmps_k76_1 lmem_k76_1 louts_k76_1 (fun a b kn kr=>ltree_k76_1 a.1 b.1 kn kr) (fun a b=>hl_k76_1 a.1 b.1 _ _) (fun a b kn kr=>nl_k76_1 a.1 b.1 kn kr)
theorem h_k76 (L_k76_1:LT_k76_1→LM_k76_1→Option LO_k76_1) x1 {α:Type} (K:SV→Mem→Option α):callBody (table [] [(1,⟨ltmps_k76_1,lmem_k76_1,louts_k76_1,L_k76_1⟩)]) br_k76 rc_k76 fd_k76 (args_k76.svs (x1,())) (mem_k76.mem ()) K = tree_k76 L_k76_1 x1 (fun r=>outsRun outs_k76 r K):=by kernel_rfl
noncomputable def C_k76:Con:=⟨args_k76,mem_k76,outs_k76,F_k76⟩
theorem k_k76:Known Try.prog fd_k76 [] [(1,D_k76_1)]:=known_of mixT (by kernel_rfl) trivial ⟨okl_k76_1,trivial⟩
theorem fn_k76:FnOK Try.prog an_k76 81 Try.f81 fd_k76:=fnOK (by kernel_rfl) (by kernel_rfl) (by kernel_rfl)
theorem ok_k76:ConOK Try.prog 81 C_k76:=con_of k_k76 (byRef:=br_k76) fn_k76 rc_k76 args_k76 mem_k76 outs_k76 (fun a b K=>tree_k76 L_k76_1 a.1 K) (fun a b=>h_k76 L_k76_1 _ _) (fun a b K=>n_k76 L_k76_1 _ K)
def an_k73:Nat→LAnn:=fun n=>(find n []).getD ⟨0,[],[],[],[]⟩
noncomputable def fd_k73:FD:=fdOf Try.prog an_k73 Try.f56
def br_k73:FuncId→CC:=fun f=>⟨([]:List Nat).contains f,(find f []).getD [],(find f []).getD []⟩
def rc_k73:RC:=⟨true,[],[]⟩
theorem h_k73 (F_k76:B_k76) x1 {α:Type} (K:SV→Mem→Option α):callBody (table [(81,⟨args_k76,mem_k76,outs_k76,F_k76⟩)] []) br_k73 rc_k73 fd_k73 (args_k73.svs (x1,())) (mem_k73.mem ()) K = tree_k73 F_k76 x1 (fun r=>outsRun outs_k73 r K):=by kernel_rfl
noncomputable def C_k73:Con:=⟨args_k73,mem_k73,outs_k73,F_k73⟩
theorem k_k73:Known Try.prog fd_k73 [(81,C_k76)] []:=known_of mixT (by kernel_rfl) ⟨ok_k76,trivial⟩ trivial
theorem fn_k73:FnOK Try.prog an_k73 56 Try.f56 fd_k73:=fnOK (by kernel_rfl) (by kernel_rfl) (by kernel_rfl)
theorem ok_k73:ConOK Try.prog 56 C_k73:=con_of k_k73 (byRef:=br_k73) fn_k73 rc_k73 args_k73 mem_k73 outs_k73 (fun a b K=>tree_k73 F_k76 a.1 K) (fun a b=>h_k73 F_k76 _ _) (fun a b K=>n_k73 F_k76 _ K)
def an_k72:Nat→LAnn:=fun n=>(find n []).getD ⟨0,[],[],[],[]⟩
noncomputable def fd_k72:FD:=fdOf Try.prog an_k72 Try.f125
def br_k72:FuncId→CC:=fun f=>⟨([]:List Nat).contains f,(find f []).getD [],(find f []).getD []⟩
def rc_k72:RC:=⟨true,[],[]⟩
theorem h_k72 (F_k73:B_k73) x1 {α:Type} (K:SV→Mem→Option α):callBody (table [(56,⟨args_k73,mem_k73,outs_k73,F_k73⟩)] []) br_k72 rc_k72 fd_k72 (args_k72.svs (x1,())) (mem_k72.mem ()) K = tree_k72 F_k73 x1 (fun r=>outsRun outs_k72 r K):=by kernel_rfl
noncomputable def C_k72:Con:=⟨args_k72,mem_k72,outs_k72,F_k72⟩
theorem k_k72:Known Try.prog fd_k72 [(56,C_k73)] []:=known_of mixT (by kernel_rfl) ⟨ok_k73,trivial⟩ trivial
theorem fn_k72:FnOK Try.prog an_k72 125 Try.f125 fd_k72:=fnOK (by kernel_rfl) (by kernel_rfl) (by kernel_rfl)
theorem ok_k72:ConOK Try.prog 125 C_k72:=con_of k_k72 (byRef:=br_k72) fn_k72 rc_k72 args_k72 mem_k72 outs_k72 (fun a b K=>tree_k72 F_k73 a.1 K) (fun a b=>h_k72 F_k73 _ _) (fun a b K=>n_k72 F_k73 _ K)
def an_k75:Nat→LAnn:=fun n=>(find n [(3,⟨3,[0,5,9,10],[],[2,3,4,5,6,7,10,11,12,13,14,15,16,17,18,19,20,21,22,23,24,25,26,27,28,29,30,31,32,33,34,35,36,37,38,39,40,41,42,43],[2,3,4]⟩)]).getD ⟨0,[],[],[],[]⟩
noncomputable def fd_k75:FD:=fdOf Try.prog an_k75 Try.f90
def br_k75:FuncId→CC:=fun f=>⟨([]:List Nat).contains f,(find f []).getD [],(find f []).getD []⟩
def rc_k75:RC:=⟨true,[],[]⟩
theorem hl_k75_3 (x1:ByteArray) (x2:Int) (x3:Int) (x4:Int) {α:Type} (kn:St→Option α) (K:Out→St→Option α):round (table [] []) br_k75 (an_k75 3) (fd_k75.loop 3) kn ⟨ltmps_k75_3.svs (x1,x2,x3,x4,()),lmem_k75_3.mem ()⟩ K = ltree_k75_3 x1 x2 x3 x4 (fun a b=>kn ⟨ltmps_k75_3.svs a,lmem_k75_3.mem b⟩) (fun r=>outLsRun louts_k75_3 r K):=by kernel_rfl
noncomputable def D_k75_3:LCon:=⟨ltmps_k75_3,lmem_k75_3,louts_k75_3,L_k75_3⟩
theorem kl_k75_3:Known Try.prog fd_k75 [] []:=known_of mixT (by kernel_rfl) trivial trivial
theorem okl_k75_3:LConOK Try.prog (fd_k75.loop 3) D_k75_3:=lcon_of kl_k75_3 (byRef:=br_k75) (lan:=an_k75 3) (id:=3) (by kernel_rfl) ltmps_k75_3 lmem_k75_3 louts_k75_3 (fun a b kn kr=>ltree_k75_3 a.1 a.2.1 a.2.2.1 a.2.2.2.1 kn kr) (fun a b=>hl_k75_3 a.1 a.2.1 a.2.2.1 a.2.2.2.1 _ _) (fun a b kn kr=>nl_k75_3 a.1 a.2.1 a.2.2.1 a.2.2.2.1 kn kr)
theorem h_k75 (L_k75_3:LT_k75_3→LM_k75_3→Option LO_k75_3) x1 {α:Type} (K:SV→Mem→Option α):callBody (table [] [(3,⟨ltmps_k75_3,lmem_k75_3,louts_k75_3,L_k75_3⟩)]) br_k75 rc_k75 fd_k75 (args_k75.svs (x1,())) (mem_k75.mem ()) K = tree_k75 L_k75_3 x1 (fun r=>outsRun outs_k75 r K):=by kernel_rfl
noncomputable def C_k75:Con:=⟨args_k75,mem_k75,outs_k75,F_k75⟩
theorem k_k75:Known Try.prog fd_k75 [] [(3,D_k75_3)]:=known_of mixT (by kernel_rfl) trivial ⟨okl_k75_3,trivial⟩
theorem fn_k75:FnOK Try.prog an_k75 90 Try.f90 fd_k75:=fnOK (by kernel_rfl) (by kernel_rfl) (by kernel_rfl)
theorem ok_k75:ConOK Try.prog 90 C_k75:=con_of k_k75 (byRef:=br_k75) fn_k75 rc_k75 args_k75 mem_k75 outs_k75 (fun a b K=>tree_k75 L_k75_3 a.1 K) (fun a b=>h_k75 L_k75_3 _ _) (fun a b K=>n_k75 L_k75_3 _ K)
def an_k74:Nat→LAnn:=fun n=>(find n []).getD ⟨0,[],[],[],[]⟩
noncomputable def fd_k74:FD:=fdOf Try.prog an_k74 Try.f95
def br_k74:FuncId→CC:=fun f=>⟨([]:List Nat).contains f,(find f []).getD [],(find f []).getD []⟩
def rc_k74:RC:=⟨true,[],[]⟩
theorem h_k74 (F_k75:B_k75) x1 x2 {α:Type} (K:SV→Mem→Option α):callBody (table [(90,⟨args_k75,mem_k75,outs_k75,F_k75⟩)] []) br_k74 rc_k74 fd_k74 (args_k74.svs (x1,x2,())) (mem_k74.mem ()) K = tree_k74 F_k75 x1 x2 (fun r=>outsRun outs_k74 r K):=by kernel_rfl
noncomputable def C_k74:Con:=⟨args_k74,mem_k74,outs_k74,F_k74⟩
theorem k_k74:Known Try.prog fd_k74 [(90,C_k75)] []:=known_of mixT (by kernel_rfl) ⟨ok_k75,trivial⟩ trivial
theorem fn_k74:FnOK Try.prog an_k74 95 Try.f95 fd_k74:=fnOK (by kernel_rfl) (by kernel_rfl) (by kernel_rfl)
theorem ok_k74:ConOK Try.prog 95 C_k74:=con_of k_k74 (byRef:=br_k74) fn_k74 rc_k74 args_k74 mem_k74 outs_k74 (fun a b K=>tree_k74 F_k75 a.1 a.2.1 K) (fun a b=>h_k74 F_k75 _ _ _) (fun a b K=>n_k74 F_k75 _ _ K)
end Go.Proofs.Ytljfdfghagiblaa.S2
