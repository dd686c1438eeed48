/- The program's functions come to their plain forms,by program. -/
import Derived.Test.YtljfdfghagiblaaGwire
import Derived.Test.YtljfdfghagiblaaHbase
set_option maxRecDepth 100000
set_option maxHeartbeats 0
set_option linter.unusedVariables false
set_option linter.unusedSimpArgs false
namespace Go.Proofs.Ytljfdfghagiblaa.S2
open Go
def an_k75:Nat→LAnn:=fun n=>(find n [(1,⟨1,[0,1],[(.slot 0,500,5,.cons (.int .u8) .nil)],[0,1,5,6,7,8,9,10,11,12,13,14],[0,1]⟩)]).getD ⟨0,[],[],[],[]⟩
noncomputable def fd_k75:FD:=fdOf Try.prog an_k75 Try.f81
def br_k75:FuncId→CC:=fun f=>⟨([]:List Nat).contains f,(find f []).getD [],(find f []).getD []⟩
def rc_k75:RC:=⟨true,[],[]⟩
theorem hl_k75_1 (x1:Int) (x2:List Int) {α:Type} (kn:St→Option α) (K:Out→St→Option α):round (table [] []) br_k75 (an_k75 1) (fd_k75.loop 1) kn ⟨ltmps_k75_1.svs (x1,()),lmem_k75_1.mem (x2,())⟩ K = ltree_k75_1 x1 x2 (fun a b=>kn ⟨ltmps_k75_1.svs a,lmem_k75_1.mem b⟩) (fun r=>outLsRun louts_k75_1 r K):=by kernel_rfl
noncomputable def D_k75_1:LCon:=⟨ltmps_k75_1,lmem_k75_1,louts_k75_1,L_k75_1⟩
theorem kl_k75_1:Known Try.prog fd_k75 [] []:=known_of mixT (by kernel_rfl) trivial trivial
theorem okl_k75_1:LConOK Try.prog (fd_k75.loop 1) D_k75_1:=lcon_of kl_k75_1 (byRef:=br_k75) (lan:=an_k75 1) (id:=1) (by kernel_rfl) ltmps_k75_1 lmem_k75_1 louts_k75_1 (fun a b kn kr=>ltree_k75_1 a.1 b.1 kn kr) (fun a b=>hl_k75_1 a.1 b.1 _ _) (fun a b kn kr=>nl_k75_1 a.1 b.1 kn kr)
theorem h_k75 (L_k75_1:LT_k75_1→LM_k75_1→Option LO_k75_1) x1 {α:Type} (K:SV→Mem→Option α):callBody (table [] [(1,⟨ltmps_k75_1,lmem_k75_1,louts_k75_1,L_k75_1⟩)]) br_k75 rc_k75 fd_k75 (args_k75.svs (x1,())) (mem_k75.mem ()) K = tree_k75 L_k75_1 x1 (fun r=>outsRun outs_k75 r K):=by kernel_rfl
noncomputable def C_k75:Con:=⟨args_k75,mem_k75,outs_k75,F_k75⟩
theorem k_k75:Known Try.prog fd_k75 [] [(1,D_k75_1)]:=known_of mixT (by kernel_rfl) trivial ⟨okl_k75_1,trivial⟩
theorem fn_k75:FnOK Try.prog an_k75 81 Try.f81 fd_k75:=fnOK (by kernel_rfl) (by kernel_rfl) (by kernel_rfl)
theorem ok_k75:ConOK Try.prog 81 C_k75:=con_of k_k75 (byRef:=br_k75) fn_k75 rc_k75 args_k75 mem_k75 outs_k75 (fun a b K=>tree_k75 L_k75_1 a.1 K) (fun a b=>h_k75 L_k75_1 _ _) (fun a b K=>n_k75 L_k75_1 _ K)
def an_k72:Nat→LAnn:=fun n=>(find n []).getD ⟨0,[],[],[],[]⟩
noncomputable def fd_k72:FD:=fdOf Try.prog an_k72 Try.f56
def br_k72:FuncId→CC:=fun f=>⟨([]:List Nat).contains f,(find f []).getD [],(find f []).getD []⟩
def rc_k72:RC:=⟨true,[],[]⟩
theorem h_k72 (F_k75:B_k75) x1 {α:Type} (K:SV→Mem→Option α):callBody (table [(81,⟨args_k75,mem_k75,outs_k75,F_k75⟩)] []) br_k72 rc_k72 fd_k72 (args_k72.svs (x1,())) (mem_k72.mem ()) K = tree_k72 F_k75 x1 (fun r=>outsRun outs_k72 r K):=by kernel_rfl
noncomputable def C_k72:Con:=⟨args_k72,mem_k72,outs_k72,F_k72⟩
theorem k_k72:Known Try.prog fd_k72 [(81,C_k75)] []:=known_of mixT (by kernel_rfl) ⟨ok_k75,trivial⟩ trivial
theorem fn_k72:FnOK Try.prog an_k72 56 Try.f56 fd_k72:=fnOK (by kernel_rfl) (by kernel_rfl) (by kernel_rfl)
theorem ok_k72:ConOK Try.prog 56 C_k72:=con_of k_k72 (byRef:=br_k72) fn_k72 rc_k72 args_k72 mem_k72 outs_k72 (fun a b K=>tree_k72 F_k75 a.1 K) (fun a b=>h_k72 F_k75 _ _) (fun a b K=>n_k72 F_k75 _ K)
def an_k71:Nat→LAnn:=fun n=>(find n []).getD ⟨0,[],[],[],[]⟩
noncomputable def fd_k71:FD:=fdOf Try.prog an_k71 Try.f125
def br_k71:FuncId→CC:=fun f=>⟨([]:List Nat).contains f,(find f []).getD [],(find f []).getD []⟩
def rc_k71:RC:=⟨true,[],[]⟩
theorem h_k71 (F_k72:B_k72) x1 {α:Type} (K:SV→Mem→Option α):callBody (table [(56,⟨args_k72,mem_k72,outs_k72,F_k72⟩)] []) br_k71 rc_k71 fd_k71 (args_k71.svs (x1,())) (mem_k71.mem ()) K = tree_k71 F_k72 x1 (fun r=>outsRun outs_k71 r K):=by kernel_rfl
noncomputable def C_k71:Con:=⟨args_k71,mem_k71,outs_k71,F_k71⟩
theorem k_k71:Known Try.prog fd_k71 [(56,C_k72)] []:=known_of mixT (by kernel_rfl) ⟨ok_k72,trivial⟩ trivial
theorem fn_k71:FnOK Try.prog an_k71 125 Try.f125 fd_k71:=fnOK (by kernel_rfl) (by kernel_rfl) (by kernel_rfl)
theorem ok_k71:ConOK Try.prog 125 C_k71:=con_of k_k71 (byRef:=br_k71) fn_k71 rc_k71 args_k71 mem_k71 outs_k71 (fun a b K=>tree_k71 F_k72 a.1 K) (fun a b=>h_k71 F_k72 _ _) (fun a b K=>n_k71 F_k72 _ K)
def an_k74:Nat→LAnn:=fun n=>(find n [(3,⟨3,[0,5,9,10],[],[2,3,4,5,6,7,10,11,12,13,14,15,16,17,18,19,20,21,22,23,24,25,26,27,28,29,30,31,32,33,34,35,36,37,38,39,40,41,42,43],[2,3,4]⟩)]).getD ⟨0,[],[],[],[]⟩
noncomputable def fd_k74:FD:=fdOf Try.prog an_k74 Try.f90
def br_k74:FuncId→CC:=fun f=>⟨([]:List Nat).contains f,(find f []).getD [],(find f []).getD []⟩
def rc_k74:RC:=⟨true,[],[]⟩
theorem hl_k74_3 (x1:ByteArray) (x2:Int) (x3:Int) (x4:Int) {α:Type} (kn:St→Option α) (K:Out→St→Option α):round (table [] []) br_k74 (an_k74 3) (fd_k74.loop 3) kn ⟨ltmps_k74_3.svs (x1,x2,x3,x4,()),lmem_k74_3.mem ()⟩ K = ltree_k74_3 x1 x2 x3 x4 (fun a b=>kn ⟨ltmps_k74_3.svs a,lmem_k74_3.mem b⟩) (fun r=>outLsRun louts_k74_3 r K):=by kernel_rfl
noncomputable def D_k74_3:LCon:=⟨ltmps_k74_3,lmem_k74_3,louts_k74_3,L_k74_3⟩
theorem kl_k74_3:Known Try.prog fd_k74 [] []:=known_of mixT (by kernel_rfl) trivial trivial
theorem okl_k74_3:LConOK Try.prog (fd_k74.loop 3) D_k74_3:=lcon_of kl_k74_3 (byRef:=br_k74) (lan:=an_k74 3) (id:=3) (by kernel_rfl) ltmps_k74_3 lmem_k74_3 louts_k74_3 (fun a b kn kr=>ltree_k74_3 a.1 a.2.1 a.2.2.1 a.2.2.2.1 kn kr) (fun a b=>hl_k74_3 a.1 a.2.1 a.2.2.1 a.2.2.2.1 _ _) (fun a b kn kr=>nl_k74_3 a.1 a.2.1 a.2.2.1 a.2.2.2.1 kn kr)
theorem h_k74 (L_k74_3:LT_k74_3→LM_k74_3→Option LO_k74_3) x1 {α:Type} (K:SV→Mem→Option α):callBody (table [] [(3,⟨ltmps_k74_3,lmem_k74_3,louts_k74_3,L_k74_3⟩)]) br_k74 rc_k74 fd_k74 (args_k74.svs (x1,())) (mem_k74.mem ()) K = tree_k74 L_k74_3 x1 (fun r=>outsRun outs_k74 r K):=by kernel_rfl
noncomputable def C_k74:Con:=⟨args_k74,mem_k74,outs_k74,F_k74⟩
theorem k_k74:Known Try.prog fd_k74 [] [(3,D_k74_3)]:=known_of mixT (by kernel_rfl) trivial ⟨okl_k74_3,trivial⟩
theorem fn_k74:FnOK Try.prog an_k74 90 Try.f90 fd_k74:=fnOK (by kernel_rfl) (by kernel_rfl) (by kernel_rfl)
theorem ok_k74:ConOK Try.prog 90 C_k74:=con_of k_k74 (byRef:=br_k74) fn_k74 rc_k74 args_k74 mem_k74 outs_k74 (fun a b K=>tree_k74 L_k74_3 a.1 K) (fun a b=>h_k74 L_k74_3 _ _) (fun a b K=>n_k74 L_k74_3 _ K)
def an_k73:Nat→LAnn:=fun n=>(find n []).getD ⟨0,[],[],[],[]⟩
noncomputable def fd_k73:FD:=fdOf Try.prog an_k73 Try.f95
def br_k73:FuncId→CC:=fun f=>⟨([]:List Nat).contains f,(find f []).getD [],(find f []).getD []⟩
def rc_k73:RC:=⟨true,[],[]⟩
theorem h_k73 (F_k74:B_k74) x1 x2 {α:Type} (K:SV→Mem→Option α):callBody (table [(90,⟨args_k74,mem_k74,outs_k74,F_k74⟩)] []) br_k73 rc_k73 fd_k73 (args_k73.svs (x1,x2,())) (mem_k73.mem ()) K = tree_k73 F_k74 x1 x2 (fun r=>outsRun outs_k73 r K):=by kernel_rfl
noncomputable def C_k73:Con:=⟨args_k73,mem_k73,outs_k73,F_k73⟩
theorem k_k73:Known Try.prog fd_k73 [(90,C_k74)] []:=known_of mixT (by kernel_rfl) ⟨ok_k74,trivial⟩ trivial
theorem fn_k73:FnOK Try.prog an_k73 95 Try.f95 fd_k73:=fnOK (by kernel_rfl) (by kernel_rfl) (by kernel_rfl)
theorem ok_k73:ConOK Try.prog 95 C_k73:=con_of k_k73 (byRef:=br_k73) fn_k73 rc_k73 args_k73 mem_k73 outs_k73 (fun a b K=>tree_k73 F_k74 a.1 a.2.1 K) (fun a b=>h_k73 F_k74 _ _ _) (fun a b K=>n_k73 F_k74 _ _ K)
end Go.Proofs.Ytljfdfghagiblaa.S2
