/- The program's functions come to their plain forms,by program. -/
import Derived.Test.YtljfdfghagiblaaGslot
import Derived.Test.YtljfdfghagiblaaHdisk
set_option maxRecDepth 100000
set_option maxHeartbeats 0
set_option linter.unusedVariables false
set_option linter.unusedSimpArgs false
namespace Go.Proofs.Ytljfdfghagiblaa.S2
open Go
def an_k61:Nat→LAnn:=fun n=>(find n []).getD ⟨0,[],[],[],[]⟩
noncomputable def fd_k61:FD:=fdOf Try.prog an_k61 Try.f119
def br_k61:FuncId→CC:=fun f=>⟨([]:List Nat).contains f,(find f []).getD [],(find f []).getD []⟩
def rc_k61:RC:=⟨true,[],[]⟩
theorem h_k61 x1 {α:Type} (K:SV→Mem→Option α):callBody (table [] []) br_k61 rc_k61 fd_k61 (args_k61.svs (x1,())) (mem_k61.mem ()) K = tree_k61 x1 (fun r=>outsRun outs_k61 r K):=by kernel_rfl
noncomputable def C_k61:Con:=⟨args_k61,mem_k61,outs_k61,F_k61⟩
theorem k_k61:Known Try.prog fd_k61 [] []:=known_of mixT (by kernel_rfl) trivial trivial
theorem fn_k61:FnOK Try.prog an_k61 119 Try.f119 fd_k61:=fnOK (by kernel_rfl) (by kernel_rfl) (by kernel_rfl)
theorem ok_k61:ConOK Try.prog 119 C_k61:=con_of k_k61 (byRef:=br_k61) fn_k61 rc_k61 args_k61 mem_k61 outs_k61 (fun a b K=>tree_k61 a.1 K) (fun a b=>h_k61 _ _) (fun a b K=>n_k61 _ K)
def an_k58:Nat→LAnn:=fun n=>(find n [(3,⟨3,[0,3,5],[],[4,5,6,7,8,9,10,11,12,13,14,15,16],[3]⟩)]).getD ⟨0,[],[],[],[]⟩
noncomputable def fd_k58:FD:=fdOf Try.prog an_k58 Try.f131
def br_k58:FuncId→CC:=fun f=>⟨([]:List Nat).contains f,(find f []).getD [],(find f []).getD []⟩
def rc_k58:RC:=⟨true,[],[]⟩
theorem h_k58 x1 {α:Type} (K:SV→Mem→Option α):callBody ((table [] []).unroll br_k58 [(3,9)]) br_k58 rc_k58 fd_k58 (args_k58.svs (x1,())) (mem_k58.mem ()) K = tree_k58 x1 (fun r=>outsRun outs_k58 r K):=by kernel_rfl
noncomputable def C_k58:Con:=⟨args_k58,mem_k58,outs_k58,F_k58⟩
theorem k_k58:Known Try.prog fd_k58 [] []:=known_of mixT (by kernel_rfl) trivial trivial
theorem fn_k58:FnOK Try.prog an_k58 131 Try.f131 fd_k58:=fnOK (by kernel_rfl) (by kernel_rfl) (by kernel_rfl)
theorem ok_k58:ConOK Try.prog 131 C_k58:=con_ofU k_k58 (byRef:=br_k58) [(3,9)] fn_k58 rc_k58 args_k58 mem_k58 outs_k58 (fun a b K=>tree_k58 a.1 K) (fun a b=>h_k58 _ _) (fun a b K=>n_k58 _ K)
def an_k60:Nat→LAnn:=fun n=>(find n [(3,⟨3,[0,3,6,7],[],[3,4,7,8,9,10,11,12,13,14,15,16,17],[3]⟩)]).getD ⟨0,[],[],[],[]⟩
noncomputable def fd_k60:FD:=fdOf Try.prog an_k60 Try.f120
def br_k60:FuncId→CC:=fun f=>⟨([]:List Nat).contains f,(find f []).getD [],(find f []).getD []⟩
def rc_k60:RC:=⟨true,[],[]⟩
theorem hl_k60_3 (x1:ByteArray) (x2:Int) (x3:Int) (x4:Int) {α:Type} (kn:St→Option α) (K:Out→St→Option α):round (table [] []) br_k60 (an_k60 3) (fd_k60.loop 3) kn ⟨ltmps_k60_3.svs (x1,x2,x3,x4,()),lmem_k60_3.mem ()⟩ K = ltree_k60_3 x1 x2 x3 x4 (fun a b=>kn ⟨ltmps_k60_3.svs a,lmem_k60_3.mem b⟩) (fun r=>outLsRun louts_k60_3 r K):=by kernel_rfl
noncomputable def D_k60_3:LCon:=⟨ltmps_k60_3,lmem_k60_3,louts_k60_3,L_k60_3⟩
theorem kl_k60_3:Known Try.prog fd_k60 [] []:=known_of mixT (by kernel_rfl) trivial trivial
theorem okl_k60_3:LConOK Try.prog (fd_k60.loop 3) D_k60_3:=lcon_of kl_k60_3 (byRef:=br_k60) (lan:=an_k60 3) (id:=3) (by kernel_rfl) ltmps_k60_3 lmem_k60_3 louts_k60_3 (fun a b kn kr=>ltree_k60_3 a.1 a.2.1 a.2.2.1 a.2.2.2.1 kn kr) (fun a b=>hl_k60_3 a.1 a.2.1 a.2.2.1 a.2.2.2.1 _ _) (fun a b kn kr=>nl_k60_3 a.1 a.2.1 a.2.2.1 a.2.2.2.1 kn kr)
theorem h_k60 (L_k60_3:LT_k60_3→LM_k60_3→Option LO_k60_3) x1 {α:Type} (K:SV→Mem→Option α):callBody (table [] [(3,⟨ltmps_k60_3,lmem_k60_3,louts_k60_3,L_k60_3⟩)]) br_k60 rc_k60 fd_k60 (args_k60.svs (x1,())) (mem_k60.mem ()) K = tree_k60 L_k60_3 x1 (fun r=>outsRun outs_k60 r K):=by kernel_rfl
noncomputable def C_k60:Con:=⟨args_k60,mem_k60,outs_k60,F_k60⟩
theorem k_k60:Known Try.prog fd_k60 [] [(3,D_k60_3)]:=known_of mixT (by kernel_rfl) trivial ⟨okl_k60_3,trivial⟩
theorem fn_k60:FnOK Try.prog an_k60 120 Try.f120 fd_k60:=fnOK (by kernel_rfl) (by kernel_rfl) (by kernel_rfl)
theorem ok_k60:ConOK Try.prog 120 C_k60:=con_of k_k60 (byRef:=br_k60) fn_k60 rc_k60 args_k60 mem_k60 outs_k60 (fun a b K=>tree_k60 L_k60_3 a.1 K) (fun a b=>h_k60 L_k60_3 _ _) (fun a b K=>n_k60 L_k60_3 _ K)
def an_k54:Nat→LAnn:=fun n=>(find n []).getD ⟨0,[],[],[],[]⟩
noncomputable def fd_k54:FD:=fdOf Try.prog an_k54 Try.f127
def br_k54:FuncId→CC:=fun f=>⟨([]:List Nat).contains f,(find f []).getD [],(find f []).getD []⟩
def rc_k54:RC:=⟨true,[],[]⟩
theorem h_k54 (F_k61:B_k61) (F_k58:B_k58) (F_k71:B_k71) x1 x2 x3 {α:Type} (K:SV→Mem→Option α):callBody (table [(119,⟨args_k61,mem_k61,outs_k61,F_k61⟩),(131,⟨args_k58,mem_k58,outs_k58,F_k58⟩),(82,⟨args_k71,mem_k71,outs_k71,F_k71⟩)] []) br_k54 rc_k54 fd_k54 (args_k54.svs (x1,x2,x3,())) (mem_k54.mem ()) K = tree_k54 F_k61 F_k58 F_k71 x1 x2 x3 (fun r=>outsRun outs_k54 r K):=by kernel_rfl
noncomputable def C_k54:Con:=⟨args_k54,mem_k54,outs_k54,F_k54⟩
theorem k_k54:Known Try.prog fd_k54 [(119,C_k61),(131,C_k58),(82,C_k71)] []:=known_of mixT (by kernel_rfl) ⟨ok_k61,ok_k58,ok_k71,trivial⟩ trivial
theorem fn_k54:FnOK Try.prog an_k54 127 Try.f127 fd_k54:=fnOK (by kernel_rfl) (by kernel_rfl) (by kernel_rfl)
theorem ok_k54:ConOK Try.prog 127 C_k54:=con_of k_k54 (byRef:=br_k54) fn_k54 rc_k54 args_k54 mem_k54 outs_k54 (fun a b K=>tree_k54 F_k61 F_k58 F_k71 a.1 a.2.1 a.2.2.1 K) (fun a b=>h_k54 F_k61 F_k58 F_k71 _ _ _ _) (fun a b K=>n_k54 F_k61 F_k58 F_k71 _ _ _ K)
def an_k57:Nat→LAnn:=fun n=>(find n []).getD ⟨0,[],[],[],[]⟩
noncomputable def fd_k57:FD:=fdOf Try.prog an_k57 Try.f108
def br_k57:FuncId→CC:=fun f=>⟨([]:List Nat).contains f,(find f []).getD [],(find f []).getD []⟩
def rc_k57:RC:=⟨true,[],[]⟩
theorem h_k57 (F_k61:B_k61) (F_k60:B_k60) x1 {α:Type} (K:SV→Mem→Option α):callBody (table [(119,⟨args_k61,mem_k61,outs_k61,F_k61⟩),(120,⟨args_k60,mem_k60,outs_k60,F_k60⟩)] []) br_k57 rc_k57 fd_k57 (args_k57.svs (x1,())) (mem_k57.mem ()) K = tree_k57 F_k61 F_k60 x1 (fun r=>outsRun outs_k57 r K):=by kernel_rfl
noncomputable def C_k57:Con:=⟨args_k57,mem_k57,outs_k57,F_k57⟩
theorem k_k57:Known Try.prog fd_k57 [(119,C_k61),(120,C_k60)] []:=known_of mixT (by kernel_rfl) ⟨ok_k61,ok_k60,trivial⟩ trivial
theorem fn_k57:FnOK Try.prog an_k57 108 Try.f108 fd_k57:=fnOK (by kernel_rfl) (by kernel_rfl) (by kernel_rfl)
theorem ok_k57:ConOK Try.prog 108 C_k57:=con_of k_k57 (byRef:=br_k57) fn_k57 rc_k57 args_k57 mem_k57 outs_k57 (fun a b K=>tree_k57 F_k61 F_k60 a.1 K) (fun a b=>h_k57 F_k61 F_k60 _ _) (fun a b K=>n_k57 F_k61 F_k60 _ K)
def an_k59:Nat→LAnn:=fun n=>(find n []).getD ⟨0,[],[],[],[]⟩
noncomputable def fd_k59:FD:=fdOf Try.prog an_k59 Try.f94
def br_k59:FuncId→CC:=fun f=>⟨([107]:List Nat).contains f,(find f [(107,[0,1,2,3,4,5,6,7,8,9,10,11])]).getD [],(find f [(107,[(0,2,196,.cons (.int .i64) (.cons .str .nil))])]).getD []⟩
def rc_k59:RC:=⟨true,[(3,2,196,.cons (.int .i64) (.cons .str .nil))],[]⟩
theorem h_k59 (F_k3:B_k3) (F_k57:B_k57) x1 x2 x3 x4 x5 {α:Type} (K:SV→Mem→Option α):callBody (table [(107,⟨args_k3,mem_k3,outs_k3,F_k3⟩),(108,⟨args_k57,mem_k57,outs_k57,F_k57⟩)] []) br_k59 rc_k59 fd_k59 (args_k59.svs (x1,x2,())) (mem_k59.mem ((x3,()),x4,x5,())) K = tree_k59 F_k3 F_k57 x1 x2 x3 x4 x5 (fun r=>outsRun routs_k59 r K):=by kernel_rfl
noncomputable def C_k59:Con:=⟨args_k59,mem_k59,outs_k59,F_k59⟩
theorem k_k59:Known Try.prog fd_k59 [(107,C_k3),(108,C_k57)] []:=known_of mixT (by kernel_rfl) ⟨ok_k3,ok_k57,trivial⟩ trivial
theorem fn_k59:FnOK Try.prog an_k59 94 Try.f94 fd_k59:=fnOK (by kernel_rfl) (by kernel_rfl) (by kernel_rfl)
noncomputable def CR_k59:Con:=⟨args_k59,mem_k59,routs_k59,R_k59⟩
theorem okr_k59:ConOK Try.prog 94 CR_k59:=con_of k_k59 (byRef:=br_k59) fn_k59 rc_k59 args_k59 mem_k59 routs_k59 (fun a b K=>tree_k59 F_k3 F_k57 a.1 a.2.1 b.1.1 b.2.1 b.2.2.1 K) (fun a b=>h_k59 F_k3 F_k57 _ _ _ _ _ _) (fun a b K=>n_k59 F_k3 F_k57 _ _ _ _ _ K)
theorem ok_k59:ConOK Try.prog 94 C_k59:=con_reads okr_k59 (by rfl) reads_k59
def an_k55:Nat→LAnn:=fun n=>(find n []).getD ⟨0,[],[],[],[]⟩
noncomputable def fd_k55:FD:=fdOf Try.prog an_k55 Try.f75
def br_k55:FuncId→CC:=fun f=>⟨([94]:List Nat).contains f,(find f [(94,[0,1,2,3,4,5,6,7,8,9,10,11])]).getD [],(find f [(94,[(0,2,196,.cons (.int .i64) (.cons .str .nil))])]).getD []⟩
def rc_k55:RC:=⟨true,[(2,2,196,.cons (.int .i64) (.cons .str .nil))],[]⟩
theorem h_k55 (F_k59:B_k59) x1 x2 x3 x4 x5 {α:Type} (K:SV→Mem→Option α):callBody (table [(94,⟨args_k59,mem_k59,outs_k59,F_k59⟩)] []) br_k55 rc_k55 fd_k55 (args_k55.svs (x1,x2,())) (mem_k55.mem ((x3,()),x4,x5,())) K = tree_k55 F_k59 x1 x2 x3 x4 x5 (fun r=>outsRun routs_k55 r K):=by kernel_rfl
noncomputable def C_k55:Con:=⟨args_k55,mem_k55,outs_k55,F_k55⟩
theorem k_k55:Known Try.prog fd_k55 [(94,C_k59)] []:=known_of mixT (by kernel_rfl) ⟨ok_k59,trivial⟩ trivial
theorem fn_k55:FnOK Try.prog an_k55 75 Try.f75 fd_k55:=fnOK (by kernel_rfl) (by kernel_rfl) (by kernel_rfl)
noncomputable def CR_k55:Con:=⟨args_k55,mem_k55,routs_k55,R_k55⟩
theorem okr_k55:ConOK Try.prog 75 CR_k55:=con_of k_k55 (byRef:=br_k55) fn_k55 rc_k55 args_k55 mem_k55 routs_k55 (fun a b K=>tree_k55 F_k59 a.1 a.2.1 b.1.1 b.2.1 b.2.2.1 K) (fun a b=>h_k55 F_k59 _ _ _ _ _ _) (fun a b K=>n_k55 F_k59 _ _ _ _ _ K)
theorem ok_k55:ConOK Try.prog 75 C_k55:=con_reads okr_k55 (by rfl) reads_k55
def an_k53:Nat→LAnn:=fun n=>(find n []).getD ⟨0,[],[],[],[]⟩
noncomputable def fd_k53:FD:=fdOf Try.prog an_k53 Try.f123
def br_k53:FuncId→CC:=fun f=>⟨([83,94,128,129]:List Nat).contains f,(find f [(83,[0,1,2,3,4,5,6,7,8,9,10,11]),(94,[0,1,2,3,4,5,6,7,8,9,10,11]),(128,[0,1,2,3,4,5,6,7,8,9,10,11]),(129,[0,1,2,3,4,5,6,7,8,9,10,11])]).getD [],(find f [(83,[(0,2,196,.cons (.int .i64) (.cons .str .nil))]),(94,[(0,2,196,.cons (.int .i64) (.cons .str .nil))]),(128,[(0,2,196,.cons (.int .i64) (.cons .str .nil))]),(129,[(0,2,196,.cons (.int .i64) (.cons .str .nil))])]).getD []⟩
def rc_k53:RC:=⟨false,[(1,2,196,.cons (.int .i64) (.cons .str .nil))],[(1,2,2)]⟩
theorem h_k53 (F_k5:B_k5) (F_k59:B_k59) (F_k6:B_k6) (F_k54:B_k54) (F_k7:B_k7) x1 x2 x3 x4 x5 x6 {α:Type} (K:SV→Mem→Option α):callBody (table [(83,⟨args_k5,mem_k5,outs_k5,F_k5⟩),(94,⟨args_k59,mem_k59,outs_k59,F_k59⟩),(128,⟨args_k6,mem_k6,outs_k6,F_k6⟩),(127,⟨args_k54,mem_k54,outs_k54,F_k54⟩),(129,⟨args_k7,mem_k7,outs_k7,F_k7⟩)] []) br_k53 rc_k53 fd_k53 (args_k53.svs (x1,x2,x3,())) (mem_k53.mem ((x4,()),x5,x6,())) K = tree_k53 F_k5 F_k59 F_k6 F_k54 F_k7 x1 x2 x3 x4 x5 x6 (fun r=>outsRun outs_k53 r K):=by kernel_rfl
noncomputable def C_k53:Con:=⟨args_k53,mem_k53,outs_k53,F_k53⟩
theorem k_k53:Known Try.prog fd_k53 [(83,C_k5),(94,C_k59),(128,C_k6),(127,C_k54),(129,C_k7)] []:=known_of mixT (by kernel_rfl) ⟨ok_k5,ok_k59,ok_k6,ok_k54,ok_k7,trivial⟩ trivial
theorem fn_k53:FnOK Try.prog an_k53 123 Try.f123 fd_k53:=fnOK (by kernel_rfl) (by kernel_rfl) (by kernel_rfl)
theorem ok_k53:ConOK Try.prog 123 C_k53:=con_of k_k53 (byRef:=br_k53) fn_k53 rc_k53 args_k53 mem_k53 outs_k53 (fun a b K=>tree_k53 F_k5 F_k59 F_k6 F_k54 F_k7 a.1 a.2.1 a.2.2.1 b.1.1 b.2.1 b.2.2.1 K) (fun a b=>h_k53 F_k5 F_k59 F_k6 F_k54 F_k7 _ _ _ _ _ _ _) (fun a b K=>n_k53 F_k5 F_k59 F_k6 F_k54 F_k7 _ _ _ _ _ _ K)
def an_k56:Nat→LAnn:=fun n=>(find n []).getD ⟨0,[],[],[],[]⟩
noncomputable def fd_k56:FD:=fdOf Try.prog an_k56 Try.f116
def br_k56:FuncId→CC:=fun f=>⟨([123,124]:List Nat).contains f,(find f [(123,[0,1,2,3,4,5,6,7,8,9,10,11]),(124,[0,1,2,3,4,5,6,7,8,9,10,11])]).getD [],(find f [(123,[(0,2,196,.cons (.int .i64) (.cons .str .nil))]),(124,[(0,2,196,.cons (.int .i64) (.cons .str .nil))])]).getD []⟩
def rc_k56:RC:=⟨false,[(1,2,196,.cons (.int .i64) (.cons .str .nil))],[(1,2,2)]⟩
theorem h_k56 (F_k53:B_k53) (F_k1:B_k1) x1 x2 x3 x4 x5 x6 {α:Type} (K:SV→Mem→Option α):callBody (table [(123,⟨args_k53,mem_k53,outs_k53,F_k53⟩),(124,⟨args_k1,mem_k1,outs_k1,F_k1⟩)] []) br_k56 rc_k56 fd_k56 (args_k56.svs (x1,x2,x3,())) (mem_k56.mem ((x4,()),x5,x6,())) K = tree_k56 F_k53 F_k1 x1 x2 x3 x4 x5 x6 (fun r=>outsRun outs_k56 r K):=by kernel_rfl
noncomputable def C_k56:Con:=⟨args_k56,mem_k56,outs_k56,F_k56⟩
theorem k_k56:Known Try.prog fd_k56 [(123,C_k53),(124,C_k1)] []:=known_of mixT (by kernel_rfl) ⟨ok_k53,ok_k1,trivial⟩ trivial
theorem fn_k56:FnOK Try.prog an_k56 116 Try.f116 fd_k56:=fnOK (by kernel_rfl) (by kernel_rfl) (by kernel_rfl)
theorem ok_k56:ConOK Try.prog 116 C_k56:=con_of k_k56 (byRef:=br_k56) fn_k56 rc_k56 args_k56 mem_k56 outs_k56 (fun a b K=>tree_k56 F_k53 F_k1 a.1 a.2.1 a.2.2.1 b.1.1 b.2.1 b.2.2.1 K) (fun a b=>h_k56 F_k53 F_k1 _ _ _ _ _ _ _) (fun a b K=>n_k56 F_k53 F_k1 _ _ _ _ _ _ K)
end Go.Proofs.Ytljfdfghagiblaa.S2
