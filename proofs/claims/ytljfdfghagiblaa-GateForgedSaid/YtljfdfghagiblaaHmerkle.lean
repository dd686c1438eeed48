/- The program's functions come to their plain forms,by program. -/
import Derived.Test.YtljfdfghagiblaaGmerkle
import Derived.Test.YtljfdfghagiblaaHmerkle0
import Derived.Test.YtljfdfghagiblaaAbove
set_option maxRecDepth 100000
set_option maxHeartbeats 0
set_option linter.unusedVariables false
set_option linter.unusedSimpArgs false
namespace Go.Proofs.Ytljfdfghagiblaa.S2
open Go
noncomputable def C_k42:Con:=⟨args_k42,mem_k42,outs_k42,F_k42⟩
theorem ok_k42:ConOK Try.prog 49 C_k42:=Above.holds
def an_k37:Nat→LAnn:=fun n=>(find n [(14,⟨14,[0,8,11,47,48],[(.slot 11,511,22,.cons (.slc 41 (.cons (.int .u64) .nil)) .nil)],[8,11,48,49,50,51,52,53,54,55,56,57],[11]⟩),(5,⟨5,[0,1,2,8,26,27],[(.slot 8,508,41,.cons (.int .u64) .nil)],[8,9,10,27,28,29,30,31,32,33,34,35,36,37,38,39,40,41,42,43,44],[0,1,8]⟩)]).getD ⟨0,[],[],[],[]⟩
noncomputable def fd_k37:FD:=fdOf Try.prog an_k37 Try.f15
def br_k37:FuncId→CC:=fun f=>⟨([33,49]:List Nat).contains f,(find f [(33,[0,1,2,3,4,5,6,7,8,9,10,11]),(49,[0,1,2,3,4,5,6,7,8,9,10,11])]).getD [],(find f [(33,[(0,9,9,.cons .str .nil)]),(49,[(0,9,9,.cons .str .nil)])]).getD []⟩
def rc_k37:RC:=⟨true,[(2,9,9,.cons .str .nil)],[]⟩
theorem hl_k37_5 (F_k39:B_k39) (F_k42:B_k42) (x1:Int) (x2:Yb) (x3:Int) (x4:Int) (x5:List Int) (x6:Int) (x7:Bool) (x8:Y1) (x9:Y1) (x10:Y2) (x11:Y3) (x12:Y4) (x13:Y5) (x14:Yb) (x15:List Int) {α:Type} (kn:St→Option α) (K:Out→St→Option α):round (table [(33,⟨args_k39,mem_k39,outs_k39,F_k39⟩),(49,⟨args_k42,mem_k42,outs_k42,F_k42⟩)] []) br_k37 (an_k37 5) (fd_k37.loop 5) kn ⟨ltmps_k37_5.svs (x1,x2,x3,x4,()),lmem_k37_5.mem ((x5,x6,x7,()),x8,x9,x10,x11,x12,x13,x14,x15,())⟩ K = ltree_k37_5 F_k39 x1 x2 x3 x4 x5 x6 x7 x8 x9 x10 x11 x12 x13 x14 x15 (fun a b=>kn ⟨ltmps_k37_5.svs a,lmem_k37_5.mem b⟩) (fun r=>outLsRun louts_k37_5 r K):=by kernel_rfl
noncomputable def D_k37_5:LCon:=⟨ltmps_k37_5,lmem_k37_5,louts_k37_5,L_k37_5⟩
theorem kl_k37_5:Known Try.prog fd_k37 [(33,C_k39),(49,C_k42)] []:=known_of mixT (by kernel_rfl) ⟨ok_k39,ok_k42,trivial⟩ trivial
theorem okl_k37_5:LConOK Try.prog (fd_k37.loop 5) D_k37_5:=lcon_of kl_k37_5 (byRef:=br_k37) (lan:=an_k37 5) (id:=5) (by kernel_rfl) ltmps_k37_5 lmem_k37_5 louts_k37_5 (fun a b kn kr=>ltree_k37_5 F_k39 a.1 a.2.1 a.2.2.1 a.2.2.2.1 b.1.1 b.1.2.1 b.1.2.2.1 b.2.1 b.2.2.1 b.2.2.2.1 b.2.2.2.2.1 b.2.2.2.2.2.1 b.2.2.2.2.2.2.1 b.2.2.2.2.2.2.2.1 b.2.2.2.2.2.2.2.2.1 kn kr) (fun a b=>hl_k37_5 F_k39 F_k42 a.1 a.2.1 a.2.2.1 a.2.2.2.1 b.1.1 b.1.2.1 b.1.2.2.1 b.2.1 b.2.2.1 b.2.2.2.1 b.2.2.2.2.1 b.2.2.2.2.2.1 b.2.2.2.2.2.2.1 b.2.2.2.2.2.2.2.1 b.2.2.2.2.2.2.2.2.1 _ _) (fun a b kn kr=>nl_k37_5 F_k39 a.1 a.2.1 a.2.2.1 a.2.2.2.1 b.1.1 b.1.2.1 b.1.2.2.1 b.2.1 b.2.2.1 b.2.2.2.1 b.2.2.2.2.1 b.2.2.2.2.2.1 b.2.2.2.2.2.2.1 b.2.2.2.2.2.2.2.1 b.2.2.2.2.2.2.2.2.1 kn kr)
theorem hl_k37_14 (F_k39:B_k39) (F_k42:B_k42) (L_k37_5:LT_k37_5→LM_k37_5→Option LO_k37_5) (x1:List Int) (x2:Int) (x3:Int) (x4:List Int) (x5:Int) (x6:Bool) (x7:Y1) (x8:Y1) (x9:Y2) (x10:Y3) (x11:Y4) (x12:Y5) (x13:Yb) (x14:List (List Int)) {α:Type} (kn:St→Option α) (K:Out→St→Option α):round (table [(33,⟨args_k39,mem_k39,outs_k39,F_k39⟩),(49,⟨args_k42,mem_k42,outs_k42,F_k42⟩)] [(5,⟨ltmps_k37_5,lmem_k37_5,louts_k37_5,L_k37_5⟩)]) br_k37 (an_k37 14) (fd_k37.loop 14) kn ⟨ltmps_k37_14.svs (x1,x2,x3,()),lmem_k37_14.mem ((x4,x5,x6,()),x7,x8,x9,x10,x11,x12,x13,x14,())⟩ K = ltree_k37_14 F_k42 x1 x2 x3 x4 x5 x6 x7 x8 x9 x10 x11 x12 x13 x14 (fun a b=>kn ⟨ltmps_k37_14.svs a,lmem_k37_14.mem b⟩) (fun r=>outLsRun louts_k37_14 r K):=by kernel_rfl
noncomputable def D_k37_14:LCon:=⟨ltmps_k37_14,lmem_k37_14,louts_k37_14,L_k37_14⟩
theorem kl_k37_14:Known Try.prog fd_k37 [(33,C_k39),(49,C_k42)] [(5,D_k37_5)]:=known_of mixT (by kernel_rfl) ⟨ok_k39,ok_k42,trivial⟩ ⟨okl_k37_5,trivial⟩
theorem okl_k37_14:LConOK Try.prog (fd_k37.loop 14) D_k37_14:=lcon_of kl_k37_14 (byRef:=br_k37) (lan:=an_k37 14) (id:=14) (by kernel_rfl) ltmps_k37_14 lmem_k37_14 louts_k37_14 (fun a b kn kr=>ltree_k37_14 F_k42 a.1 a.2.1 a.2.2.1 b.1.1 b.1.2.1 b.1.2.2.1 b.2.1 b.2.2.1 b.2.2.2.1 b.2.2.2.2.1 b.2.2.2.2.2.1 b.2.2.2.2.2.2.1 b.2.2.2.2.2.2.2.1 b.2.2.2.2.2.2.2.2.1 kn kr) (fun a b=>hl_k37_14 F_k39 F_k42 L_k37_5 a.1 a.2.1 a.2.2.1 b.1.1 b.1.2.1 b.1.2.2.1 b.2.1 b.2.2.1 b.2.2.2.1 b.2.2.2.2.1 b.2.2.2.2.2.1 b.2.2.2.2.2.2.1 b.2.2.2.2.2.2.2.1 b.2.2.2.2.2.2.2.2.1 _ _) (fun a b kn kr=>nl_k37_14 F_k42 a.1 a.2.1 a.2.2.1 b.1.1 b.1.2.1 b.1.2.2.1 b.2.1 b.2.2.1 b.2.2.2.1 b.2.2.2.2.1 b.2.2.2.2.2.1 b.2.2.2.2.2.2.1 b.2.2.2.2.2.2.2.1 b.2.2.2.2.2.2.2.2.1 kn kr)
theorem h_k37 (F_k39:B_k39) (F_k42:B_k42) (L_k37_5:LT_k37_5→LM_k37_5→Option LO_k37_5) (L_k37_14:LT_k37_14→LM_k37_14→Option LO_k37_14) x1 x2 x3 x4 x5 x6 x7 x8 x9 x10 x11 x12 {α:Type} (K:SV→Mem→Option α):callBody (table [(33,⟨args_k39,mem_k39,outs_k39,F_k39⟩),(49,⟨args_k42,mem_k42,outs_k42,F_k42⟩)] [(5,⟨ltmps_k37_5,lmem_k37_5,louts_k37_5,L_k37_5⟩),(14,⟨ltmps_k37_14,lmem_k37_14,louts_k37_14,L_k37_14⟩)]) br_k37 rc_k37 fd_k37 (args_k37.svs (x1,x2,())) (mem_k37.mem ((x3,x4,x5,()),x6,x7,x8,x9,x10,x11,x12,())) K = tree_k37 L_k37_5 L_k37_14 x1 x2 x3 x4 x5 x6 x7 x8 x9 x10 x11 x12 (fun r=>outsRun outs_k37 r K):=by kernel_rfl
noncomputable def C_k37:Con:=⟨args_k37,mem_k37,outs_k37,F_k37⟩
theorem k_k37:Known Try.prog fd_k37 [(33,C_k39),(49,C_k42)] [(5,D_k37_5),(14,D_k37_14)]:=known_of mixT (by kernel_rfl) ⟨ok_k39,ok_k42,trivial⟩ ⟨okl_k37_5,okl_k37_14,trivial⟩
theorem fn_k37:FnOK Try.prog an_k37 15 Try.f15 fd_k37:=fnOK (by kernel_rfl) (by kernel_rfl) (by kernel_rfl)
theorem ok_k37:ConOK Try.prog 15 C_k37:=con_of k_k37 (byRef:=br_k37) fn_k37 rc_k37 args_k37 mem_k37 outs_k37 (fun a b K=>tree_k37 L_k37_5 L_k37_14 a.1 a.2.1 b.1.1 b.1.2.1 b.1.2.2.1 b.2.1 b.2.2.1 b.2.2.2.1 b.2.2.2.2.1 b.2.2.2.2.2.1 b.2.2.2.2.2.2.1 b.2.2.2.2.2.2.2.1 K) (fun a b=>h_k37 F_k39 F_k42 L_k37_5 L_k37_14 _ _ _ _ _ _ _ _ _ _ _ _ _) (fun a b K=>n_k37 L_k37_5 L_k37_14 _ _ _ _ _ _ _ _ _ _ _ _ K)
def an_k44:Nat→LAnn:=fun n=>(find n [(5,⟨5,[3,15,16,17],[],[2,4,5,17,18,19,20,21,22,23,24,25,26,27,28,29],[2]⟩)]).getD ⟨0,[],[],[],[]⟩
noncomputable def fd_k44:FD:=fdOf Try.prog an_k44 Try.f51
def br_k44:FuncId→CC:=fun f=>⟨([]:List Nat).contains f,(find f []).getD [],(find f []).getD []⟩
def rc_k44:RC:=⟨true,[],[]⟩
theorem hl_k44_5 (x1:Int) (x2:List (List Int)) (x3:Int) (x4:Int) {α:Type} (kn:St→Option α) (K:Out→St→Option α):round (table [] []) br_k44 (an_k44 5) (fd_k44.loop 5) kn ⟨ltmps_k44_5.svs (x1,x2,x3,x4,()),lmem_k44_5.mem ()⟩ K = ltree_k44_5 x1 x2 x3 x4 (fun a b=>kn ⟨ltmps_k44_5.svs a,lmem_k44_5.mem b⟩) (fun r=>outLsRun louts_k44_5 r K):=by kernel_rfl
noncomputable def D_k44_5:LCon:=⟨ltmps_k44_5,lmem_k44_5,louts_k44_5,L_k44_5⟩
theorem kl_k44_5:Known Try.prog fd_k44 [] []:=known_of mixT (by kernel_rfl) trivial trivial
theorem okl_k44_5:LConOK Try.prog (fd_k44.loop 5) D_k44_5:=lcon_of kl_k44_5 (byRef:=br_k44) (lan:=an_k44 5) (id:=5) (by kernel_rfl) ltmps_k44_5 lmem_k44_5 louts_k44_5 (fun a b kn kr=>ltree_k44_5 a.1 a.2.1 a.2.2.1 a.2.2.2.1 kn kr) (fun a b=>hl_k44_5 a.1 a.2.1 a.2.2.1 a.2.2.2.1 _ _) (fun a b kn kr=>nl_k44_5 a.1 a.2.1 a.2.2.1 a.2.2.2.1 kn kr)
theorem h_k44 (L_k44_5:LT_k44_5→LM_k44_5→Option LO_k44_5) x1 {α:Type} (K:SV→Mem→Option α):callBody (table [] [(5,⟨ltmps_k44_5,lmem_k44_5,louts_k44_5,L_k44_5⟩)]) br_k44 rc_k44 fd_k44 (args_k44.svs (x1,())) (mem_k44.mem ()) K = tree_k44 L_k44_5 x1 (fun r=>outsRun outs_k44 r K):=by kernel_rfl
noncomputable def C_k44:Con:=⟨args_k44,mem_k44,outs_k44,F_k44⟩
theorem k_k44:Known Try.prog fd_k44 [] [(5,D_k44_5)]:=known_of mixT (by kernel_rfl) trivial ⟨okl_k44_5,trivial⟩
theorem fn_k44:FnOK Try.prog an_k44 51 Try.f51 fd_k44:=fnOK (by kernel_rfl) (by kernel_rfl) (by kernel_rfl)
theorem ok_k44:ConOK Try.prog 51 C_k44:=con_of k_k44 (byRef:=br_k44) fn_k44 rc_k44 args_k44 mem_k44 outs_k44 (fun a b K=>tree_k44 L_k44_5 a.1 K) (fun a b=>h_k44 L_k44_5 _ _) (fun a b K=>n_k44 L_k44_5 _ K)
def an_k41:Nat→LAnn:=fun n=>(find n [(5,⟨5,[0,1,6,25,26],[(.slot 6,506,41,.cons (.int .u64) .nil)],[6,7,26,27,28,29,30,31,32,33,34,35,36,37,38,39,40,41,42],[6]⟩)]).getD ⟨0,[],[],[],[]⟩
noncomputable def fd_k41:FD:=fdOf Try.prog an_k41 Try.f23
def br_k41:FuncId→CC:=fun f=>⟨([]:List Nat).contains f,(find f []).getD [],(find f []).getD []⟩
def rc_k41:RC:=⟨true,[],[]⟩
theorem hl_k41_5 (F_k44:B_k44) (x1:List (List Int)) (x2:Int) (x3:Int) (x4:Int) (x5:List Int) {α:Type} (kn:St→Option α) (K:Out→St→Option α):round (table [(51,⟨args_k44,mem_k44,outs_k44,F_k44⟩)] []) br_k41 (an_k41 5) (fd_k41.loop 5) kn ⟨ltmps_k41_5.svs (x1,x2,x3,x4,()),lmem_k41_5.mem (x5,())⟩ K = ltree_k41_5 x1 x2 x3 x4 x5 (fun a b=>kn ⟨ltmps_k41_5.svs a,lmem_k41_5.mem b⟩) (fun r=>outLsRun louts_k41_5 r K):=by kernel_rfl
noncomputable def D_k41_5:LCon:=⟨ltmps_k41_5,lmem_k41_5,louts_k41_5,L_k41_5⟩
theorem kl_k41_5:Known Try.prog fd_k41 [(51,C_k44)] []:=known_of mixT (by kernel_rfl) ⟨ok_k44,trivial⟩ trivial
theorem okl_k41_5:LConOK Try.prog (fd_k41.loop 5) D_k41_5:=lcon_of kl_k41_5 (byRef:=br_k41) (lan:=an_k41 5) (id:=5) (by kernel_rfl) ltmps_k41_5 lmem_k41_5 louts_k41_5 (fun a b kn kr=>ltree_k41_5 a.1 a.2.1 a.2.2.1 a.2.2.2.1 b.1 kn kr) (fun a b=>hl_k41_5 F_k44 a.1 a.2.1 a.2.2.1 a.2.2.2.1 b.1 _ _) (fun a b kn kr=>nl_k41_5 a.1 a.2.1 a.2.2.1 a.2.2.2.1 b.1 kn kr)
theorem h_k41 (F_k44:B_k44) (L_k41_5:LT_k41_5→LM_k41_5→Option LO_k41_5) x1 x2 {α:Type} (K:SV→Mem→Option α):callBody (table [(51,⟨args_k44,mem_k44,outs_k44,F_k44⟩)] [(5,⟨ltmps_k41_5,lmem_k41_5,louts_k41_5,L_k41_5⟩)]) br_k41 rc_k41 fd_k41 (args_k41.svs (x1,x2,())) (mem_k41.mem ()) K = tree_k41 F_k44 L_k41_5 x1 x2 (fun r=>outsRun outs_k41 r K):=by kernel_rfl
noncomputable def C_k41:Con:=⟨args_k41,mem_k41,outs_k41,F_k41⟩
theorem k_k41:Known Try.prog fd_k41 [(51,C_k44)] [(5,D_k41_5)]:=known_of mixT (by kernel_rfl) ⟨ok_k44,trivial⟩ ⟨okl_k41_5,trivial⟩
theorem fn_k41:FnOK Try.prog an_k41 23 Try.f23 fd_k41:=fnOK (by kernel_rfl) (by kernel_rfl) (by kernel_rfl)
theorem ok_k41:ConOK Try.prog 23 C_k41:=con_of k_k41 (byRef:=br_k41) fn_k41 rc_k41 args_k41 mem_k41 outs_k41 (fun a b K=>tree_k41 F_k44 L_k41_5 a.1 a.2.1 K) (fun a b=>h_k41 F_k44 L_k41_5 _ _ _) (fun a b K=>n_k41 F_k44 L_k41_5 _ _ K)
def an_k38:Nat→LAnn:=fun n=>(find n [(5,⟨5,[0,2,10,30,31,32],[],[10,11,12,32,33,34,35,36,37,38,39,40,41,42,43,44],[10]⟩)]).getD ⟨0,[],[],[],[]⟩
noncomputable def fd_k38:FD:=fdOf Try.prog an_k38 Try.f24
def br_k38:FuncId→CC:=fun f=>⟨([33,52]:List Nat).contains f,(find f [(33,[0,1,2,3,4,5,6,7,8,9,10,11]),(52,[0,1,2,3,4,5,6,7,8,9,10,11])]).getD [],(find f [(33,[(0,9,9,.cons .str .nil)]),(52,[(0,9,9,.cons .str .nil)])]).getD []⟩
def rc_k38:RC:=⟨true,[(2,9,9,.cons .str .nil)],[]⟩
theorem hl_k38_5 (F_k39:B_k39) (F_k43:B_k43) (x1:Int) (x2:Int) (x3:List Int) (x4:Int) (x5:Int) (x6:List Int) (x7:Int) (x8:Bool) (x9:Y1) (x10:Y1) (x11:Y2) (x12:Y3) (x13:Y4) (x14:Y5) (x15:Yb) {α:Type} (kn:St→Option α) (K:Out→St→Option α):round (table [(33,⟨args_k39,mem_k39,outs_k39,F_k39⟩),(52,⟨args_k43,mem_k43,outs_k43,F_k43⟩)] []) br_k38 (an_k38 5) (fd_k38.loop 5) kn ⟨ltmps_k38_5.svs (x1,x2,x3,x4,x5,()),lmem_k38_5.mem ((x6,x7,x8,()),x9,x10,x11,x12,x13,x14,x15,())⟩ K = ltree_k38_5 F_k43 x1 x2 x3 x4 x5 x6 x7 x8 x9 x10 x11 x12 x13 x14 x15 (fun a b=>kn ⟨ltmps_k38_5.svs a,lmem_k38_5.mem b⟩) (fun r=>outLsRun louts_k38_5 r K):=by kernel_rfl
noncomputable def D_k38_5:LCon:=⟨ltmps_k38_5,lmem_k38_5,louts_k38_5,L_k38_5⟩
theorem kl_k38_5:Known Try.prog fd_k38 [(33,C_k39),(52,C_k43)] []:=known_of mixT (by kernel_rfl) ⟨ok_k39,ok_k43,trivial⟩ trivial
theorem okl_k38_5:LConOK Try.prog (fd_k38.loop 5) D_k38_5:=lcon_of kl_k38_5 (byRef:=br_k38) (lan:=an_k38 5) (id:=5) (by kernel_rfl) ltmps_k38_5 lmem_k38_5 louts_k38_5 (fun a b kn kr=>ltree_k38_5 F_k43 a.1 a.2.1 a.2.2.1 a.2.2.2.1 a.2.2.2.2.1 b.1.1 b.1.2.1 b.1.2.2.1 b.2.1 b.2.2.1 b.2.2.2.1 b.2.2.2.2.1 b.2.2.2.2.2.1 b.2.2.2.2.2.2.1 b.2.2.2.2.2.2.2.1 kn kr) (fun a b=>hl_k38_5 F_k39 F_k43 a.1 a.2.1 a.2.2.1 a.2.2.2.1 a.2.2.2.2.1 b.1.1 b.1.2.1 b.1.2.2.1 b.2.1 b.2.2.1 b.2.2.2.1 b.2.2.2.2.1 b.2.2.2.2.2.1 b.2.2.2.2.2.2.1 b.2.2.2.2.2.2.2.1 _ _) (fun a b kn kr=>nl_k38_5 F_k43 a.1 a.2.1 a.2.2.1 a.2.2.2.1 a.2.2.2.2.1 b.1.1 b.1.2.1 b.1.2.2.1 b.2.1 b.2.2.1 b.2.2.2.1 b.2.2.2.2.1 b.2.2.2.2.2.1 b.2.2.2.2.2.2.1 b.2.2.2.2.2.2.2.1 kn kr)
theorem h_k38 (F_k39:B_k39) (F_k43:B_k43) (L_k38_5:LT_k38_5→LM_k38_5→Option LO_k38_5) x1 x2 x3 x4 x5 x6 x7 x8 x9 x10 x11 x12 x13 {α:Type} (K:SV→Mem→Option α):callBody (table [(33,⟨args_k39,mem_k39,outs_k39,F_k39⟩),(52,⟨args_k43,mem_k43,outs_k43,F_k43⟩)] [(5,⟨ltmps_k38_5,lmem_k38_5,louts_k38_5,L_k38_5⟩)]) br_k38 rc_k38 fd_k38 (args_k38.svs (x1,x2,x3,())) (mem_k38.mem ((x4,x5,x6,()),x7,x8,x9,x10,x11,x12,x13,())) K = tree_k38 F_k39 L_k38_5 x1 x2 x3 x4 x5 x6 x7 x8 x9 x10 x11 x12 x13 (fun r=>outsRun outs_k38 r K):=by kernel_rfl
noncomputable def C_k38:Con:=⟨args_k38,mem_k38,outs_k38,F_k38⟩
theorem k_k38:Known Try.prog fd_k38 [(33,C_k39),(52,C_k43)] [(5,D_k38_5)]:=known_of mixT (by kernel_rfl) ⟨ok_k39,ok_k43,trivial⟩ ⟨okl_k38_5,trivial⟩
theorem fn_k38:FnOK Try.prog an_k38 24 Try.f24 fd_k38:=fnOK (by kernel_rfl) (by kernel_rfl) (by kernel_rfl)
theorem ok_k38:ConOK Try.prog 24 C_k38:=con_of k_k38 (byRef:=br_k38) fn_k38 rc_k38 args_k38 mem_k38 outs_k38 (fun a b K=>tree_k38 F_k39 L_k38_5 a.1 a.2.1 a.2.2.1 b.1.1 b.1.2.1 b.1.2.2.1 b.2.1 b.2.2.1 b.2.2.2.1 b.2.2.2.2.1 b.2.2.2.2.2.1 b.2.2.2.2.2.2.1 b.2.2.2.2.2.2.2.1 K) (fun a b=>h_k38 F_k39 F_k43 L_k38_5 _ _ _ _ _ _ _ _ _ _ _ _ _ _) (fun a b K=>n_k38 F_k39 L_k38_5 _ _ _ _ _ _ _ _ _ _ _ _ _ K)
end Go.Proofs.Ytljfdfghagiblaa.S2
