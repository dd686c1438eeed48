/- The program's functions come to their plain forms,by program. -/
import Derived.Test.YtljfdfghagiblaaGwire
import Derived.Test.YtljfdfghagiblaaHbase
set_option maxRecDepth 100000
set_option maxHeartbeats 0
set_option linter.unusedVariables false
set_option linter.unusedSimpArgs false
namespace Go.Proofs.Ytljfdfghagiblaa.S2
open Go
def an_k81:Nat→LAnn:=fun n=>(find n [(1,⟨1,[0,1],[(.slot 0,500,5,.cons (.int .u8) .nil)],[0,1,5,6,7,8,9,10,11,12,13,14],[0,1]⟩)]).getD ⟨0,[],[],[],[]⟩
noncomputable def fd_k81:FD:=fdOf Try.prog an_k81 Try.f81
def br_k81:FuncId→CC:=fun f=>⟨([]:List Nat).contains f,(find f []).getD [],(find f []).getD []⟩
def rc_k81:RC:=⟨true,[],[]⟩
theorem hl_k81_1 (x1:Int) (x2:List Int) {α:Type} (kn:St→Option α) (K:Out→St→Option α):round (table [] []) br_k81 (an_k81 1) (fd_k81.loop 1) kn ⟨ltmps_k81_1.svs (x1,()),lmem_k81_1.mem (x2,())⟩ K = ltree_k81_1 x1 x2 (fun a b=>kn ⟨ltmps_k81_1.svs a,lmem_k81_1.mem b⟩) (fun r=>outLsRun louts_k81_1 r K):=by kernel_rfl
noncomputable def D_k81_1:LCon:=⟨ltmps_k81_1,lmem_k81_1,louts_k81_1,L_k81_1⟩
theorem kl_k81_1:Known Try.prog fd_k81 [] []:=known_of mixT (by kernel_rfl) trivial trivial
theorem okl_k81_1:LConOK Try.prog (fd_k81.loop 1) D_k81_1:=lcon_of kl_k81_1 (byRef:=br_k81) (lan:=an_k81 1) (id:=1) (by kernel_rfl) ltmps_k81_1 lmem_k81_1 louts_k81_1 (fun a b kn kr=>ltree_k81_1 a.1 b.1 kn kr) (fun a b=>hl_k81_1 a.1 b.1 _ _) (fun a b kn kr=>nl_k81_1 a.1 b.1 kn kr)
theorem h_k81 (L_k81_1:LT_k81_1→LM_k81_1→Option LO_k81_1) x1 {α:Type} (K:SV→Mem→Option α):callBody (table [] [(1,⟨ltmps_k81_1,lmem_k81_1,louts_k81_1,L_k81_1⟩)]) br_k81 rc_k81 fd_k81 (args_k81.svs (x1,())) (mem_k81.mem ()) K = tree_k81 L_k81_1 x1 (fun r=>outsRun outs_k81 r K):=by kernel_rfl
noncomputable def C_k81:Con:=⟨args_k81,mem_k81,outs_k81,F_k81⟩
theorem k_k81:Known Try.prog fd_k81 [] [(1,D_k81_1)]:=known_of mixT (by kernel_rfl) trivial ⟨okl_k81_1,trivial⟩
theorem fn_k81:FnOK Try.prog an_k81 81 Try.f81 fd_k81:=fnOK (by kernel_rfl) (by kernel_rfl) (by kernel_rfl)
theorem ok_k81:ConOK Try.prog 81 C_k81:=con_of k_k81 (byRef:=br_k81) fn_k81 rc_k81 args_k81 mem_k81 outs_k81 (fun a b K=>tree_k81 L_k81_1 a.1 K) (fun a b=>h_k81 L_k81_1 _ _) (fun a b K=>n_k81 L_k81_1 _ K)
def an_k78:Nat→LAnn:=fun n=>(find n []).getD ⟨0,[],[],[],[]⟩
noncomputable def fd_k78:FD:=fdOf Try.prog an_k78 Try.f56
def br_k78:FuncId→CC:=fun f=>⟨([]:List Nat).contains f,(find f []).getD [],(find f []).getD []⟩
def rc_k78:RC:=⟨true,[],[]⟩
theorem h_k78 (F_k81:B_k81) x1 {α:Type} (K:SV→Mem→Option α):callBody (table [(81,⟨args_k81,mem_k81,outs_k81,F_k81⟩)] []) br_k78 rc_k78 fd_k78 (args_k78.svs (x1,())) (mem_k78.mem ()) K = tree_k78 F_k81 x1 (fun r=>outsRun outs_k78 r K):=by kernel_rfl
noncomputable def C_k78:Con:=⟨args_k78,mem_k78,outs_k78,F_k78⟩
theorem k_k78:Known Try.prog fd_k78 [(81,C_k81)] []:=known_of mixT (by kernel_rfl) ⟨ok_k81,trivial⟩ trivial
theorem fn_k78:FnOK Try.prog an_k78 56 Try.f56 fd_k78:=fnOK (by kernel_rfl) (by kernel_rfl) (by kernel_rfl)
theorem ok_k78:ConOK Try.prog 56 C_k78:=con_of k_k78 (byRef:=br_k78) fn_k78 rc_k78 args_k78 mem_k78 outs_k78 (fun a b K=>tree_k78 F_k81 a.1 K) (fun a b=>h_k78 F_k81 _ _) (fun a b K=>n_k78 F_k81 _ K)
def an_k77:Nat→LAnn:=fun n=>(find n []).getD ⟨0,[],[],[],[]⟩
noncomputable def fd_k77:FD:=fdOf Try.prog an_k77 Try.f125
def br_k77:FuncId→CC:=fun f=>⟨([]:List Nat).contains f,(find f []).getD [],(find f []).getD []⟩
def rc_k77:RC:=⟨true,[],[]⟩
theorem h_k77 (F_k78:B_k78) x1 {α:Type} (K:SV→Mem→Option α):callBody (table [(56,⟨args_k78,mem_k78,outs_k78,F_k78⟩)] []) br_k77 rc_k77 fd_k77 (args_k77.svs (x1,())) (mem_k77.mem ()) K = tree_k77 F_k78 x1 (fun r=>outsRun outs_k77 r K):=by kernel_rfl
noncomputable def C_k77:Con:=⟨args_k77,mem_k77,outs_k77,F_k77⟩
theorem k_k77:Known Try.prog fd_k77 [(56,C_k78)] []:=known_of mixT (by kernel_rfl) ⟨ok_k78,trivial⟩ trivial
theorem fn_k77:FnOK Try.prog an_k77 125 Try.f125 fd_k77:=fnOK (by kernel_rfl) (by kernel_rfl) (by kernel_rfl)
theorem ok_k77:ConOK Try.prog 125 C_k77:=con_of k_k77 (byRef:=br_k77) fn_k77 rc_k77 args_k77 mem_k77 outs_k77 (fun a b K=>tree_k77 F_k78 a.1 K) (fun a b=>h_k77 F_k78 _ _) (fun a b K=>n_k77 F_k78 _ K)
def an_k80:Nat→LAnn:=fun n=>(find n [(3,⟨3,[0,5,9,10],[],[2,3,4,5,6,7,10,11,12,13,14,15,16,17,18,19,20,21,22,23,24,25,26,27,28,29,30,31,32,33,34,35,36,37,38,39,40,41,42,43],[2,3,4]⟩)]).getD ⟨0,[],[],[],[]⟩
noncomputable def fd_k80:FD:=fdOf Try.prog an_k80 Try.f90
def br_k80:FuncId→CC:=fun f=>⟨([]:List Nat).contains f,(find f []).getD [],(find f []).getD []⟩
def rc_k80:RC:=⟨true,[],[]⟩
theorem hl_k80_3 (x1:ByteArray) (x2:Int) (x3:Int) (x4:Int) {α:Type} (kn:St→Option α) (K:Out→St→Option α):round (table [] []) br_k80 (an_k80 3) (fd_k80.loop 3) kn ⟨ltmps_k80_3.svs (x1,x2,x3,x4,()),lmem_k80_3.mem ()⟩ K = ltree_k80_3 x1 x2 x3 x4 (fun a b=>kn ⟨ltmps_k80_3.svs a,lmem_k80_3.mem b⟩) (fun r=>outLsRun louts_k80_3 r K):=by kernel_rfl
noncomputable def D_k80_3:LCon:=⟨ltmps_k80_3,lmem_k80_3,louts_k80_3,L_k80_3⟩
theorem kl_k80_3:Known Try.prog fd_k80 [] []:=known_of mixT (by kernel_rfl) trivial trivial
theorem okl_k80_3:LConOK Try.prog (fd_k80.loop 3) D_k80_3:=lcon_of kl_k80_3 (byRef:=br_k80) (lan:=an_k80 3) (id:=3) (by kernel_rfl) ltmps_k80_3 lmem_k80_3 louts_k80_3 (fun a b kn kr=>ltree_k80_3 a.1 a.2.1 a.2.2.1 a.2.2.2.1 kn kr) (fun a b=>hl_k80_3 a.1 a.2.1 a.2.2.1 a.2.2.2.1 _ _) (fun a b kn kr=>nl_k80_3 a.1 a.2.1 a.2.2.1 a.2.2.2.1 kn kr)
theorem h_k80 (L_k80_3:LT_k80_3→LM_k80_3→Option LO_k80_3) x1 {α:Type} (K:SV→Mem→Option α):callBody (table [] [(3,⟨ltmps_k80_3,lmem_k80_3,louts_k80_3,L_k80_3⟩)]) br_k80 rc_k80 fd_k80 (args_k80.svs (x1,())) (mem_k80.mem ()) K = tree_k80 L_k80_3 x1 (fun r=>outsRun outs_k80 r K):=by kernel_rfl
noncomputable def C_k80:Con:=⟨args_k80,mem_k80,outs_k80,F_k80⟩
theorem k_k80:Known Try.prog fd_k80 [] [(3,D_k80_3)]:=known_of mixT (by kernel_rfl) trivial ⟨okl_k80_3,trivial⟩
theorem fn_k80:FnOK Try.prog an_k80 90 Try.f90 fd_k80:=fnOK (by kernel_rfl) (by kernel_rfl) (by kernel_rfl)
theorem ok_k80:ConOK Try.prog 90 C_k80:=con_of k_k80 (byRef:=br_k80) fn_k80 rc_k80 args_k80 mem_k80 outs_k80 (fun a b K=>tree_k80 L_k80_3 a.1 K) (fun a b=>h_k80 L_k80_3 _ _) (fun a b K=>n_k80 L_k80_3 _ K)
def an_k79:Nat→LAnn:=fun n=>(find n []).getD ⟨0,[],[],[],[]⟩
noncomputable def fd_k79:FD:=fdOf Try.prog an_k79 Try.f95
def br_k79:FuncId→CC:=fun f=>⟨([]:List Nat).contains f,(find f []).getD [],(find f []).getD []⟩
def rc_k79:RC:=⟨true,[],[]⟩
theorem h_k79 (F_k80:B_k80) x1 x2 {α:Type} (K:SV→Mem→Option α):callBody (table [(90,⟨args_k80,mem_k80,outs_k80,F_k80⟩)] []) br_k79 rc_k79 fd_k79 (args_k79.svs (x1,x2,())) (mem_k79.mem ()) K = tree_k79 F_k80 x1 x2 (fun r=>outsRun outs_k79 r K):=by kernel_rfl
noncomputable def C_k79:Con:=⟨args_k79,mem_k79,outs_k79,F_k79⟩
theorem k_k79:Known Try.prog fd_k79 [(90,C_k80)] []:=known_of mixT (by kernel_rfl) ⟨ok_k80,trivial⟩ trivial
theorem fn_k79:FnOK Try.prog an_k79 95 Try.f95 fd_k79:=fnOK (by kernel_rfl) (by kernel_rfl) (by kernel_rfl)
theorem ok_k79:ConOK Try.prog 95 C_k79:=con_of k_k79 (byRef:=br_k79) fn_k79 rc_k79 args_k79 mem_k79 outs_k79 (fun a b K=>tree_k79 F_k80 a.1 a.2.1 K) (fun a b=>h_k79 F_k80 _ _ _) (fun a b K=>n_k79 F_k80 _ _ K)
end Go.Proofs.Ytljfdfghagiblaa.S2
