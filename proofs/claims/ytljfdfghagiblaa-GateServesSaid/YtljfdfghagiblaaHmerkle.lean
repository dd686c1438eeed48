/- The program's functions come to their plain forms,by program. -/
import Derived.Test.YtljfdfghagiblaaGmerkle
import Derived.Test.YtljfdfghagiblaaHmerkle0
import Derived.Test.YtljfdfghagiblaaAbove
set_option maxRecDepth 100000
set_option maxHeartbeats 0
set_option linter.unusedVariables false
set_option linter.unusedSimpArgs false
namespace Go.Proofs.Ytljfdfghagiblaa.S2
open Go
noncomputable def C_k43:Con:=⟨args_k43,mem_k43,outs_k43,F_k43⟩
theorem ok_k43:ConOK Try.prog 49 C_k43:=Above.holds
def an_k38:Nat→LAnn:=fun n=>(find n [(14,⟨14,[0,8,11,47,48],[(.slot 11,511,22,.cons (.slc 41 (.cons (.int .u64) .nil)) .nil)],[8,11,48,49,50,51,52,53,54,55,56,57],[11]⟩),(5,⟨5,[0,1,2,8,26,27],[(.slot 8,508,41,.cons (.int .u64) .nil)],[8,9,10,27,28,29,30,31,32,33,34,35,36,37,38,39,40,41,42,43,44],[0,1,8]⟩)]).getD ⟨0,[],[],[],[]⟩
noncomputable def fd_k38:FD:=fdOf Try.prog an_k38 Try.f15
def br_k38:FuncId→CC:=fun f=>⟨([33,49]:List Nat).contains f,(find f [(33,[0,1,2,3,4,5,6,7,8,9,10,11]),(49,[0,1,2,3,4,5,6,7,8,9,10,11])]).getD [],(find f [(33,[(0,9,9,.cons .str .nil)]),(49,[(0,9,9,.cons .str .nil)])]).getD []⟩
def rc_k38:RC:=⟨true,[(2,9,9,.cons .str .nil)],[]⟩
theorem hl_k38_5 (F_k40:B_k40) (F_k43:B_k43) (x1:Int) (x2:Yb) (x3:Int) (x4:Int) (x5:List Int) (x6:Int) (x7:Bool) (x8:Y1) (x9:Y1) (x10:Y2) (x11:Y3) (x12:Y4) (x13:Y5) (x14:Yb) (x15:List Int) {α:Type} (kn:St→Option α) (K:Out→St→Option α):round (table [(33,⟨args_k40,mem_k40,outs_k40,F_k40⟩),(49,⟨args_k43,mem_k43,outs_k43,F_k43⟩)] []) br_k38 (an_k38 5) (fd_k38.loop 5) kn ⟨ltmps_k38_5.svs (x1,x2,x3,x4,()),lmem_k38_5.mem ((x5,x6,x7,()),x8,x9,x10,x11,x12,x13,x14,x15,())⟩ K = ltree_k38_5 F_k40 x1 x2 x3 x4 x5 x6 x7 x8 x9 x10 x11 x12 x13 x14 x15 (fun a b=>kn ⟨ltmps_k38_5.svs a,lmem_k38_5.mem b⟩) (fun r=>outLsRun louts_k38_5 r K):=by kernel_rfl
noncomputable def D_k38_5:LCon:=⟨ltmps_k38_5,lmem_k38_5,louts_k38_5,L_k38_5⟩
theorem kl_k38_5:Known Try.prog fd_k38 [(33,C_k40),(49,C_k43)] []:=known_of mixT (by kernel_rfl) ⟨ok_k40,ok_k43,trivial⟩ trivial
theorem okl_k38_5:LConOK Try.prog (fd_k38.loop 5) D_k38_5:=lcon_of kl_k38_5 (byRef:=br_k38) (lan:=an_k38 5) (id:=5) (by kernel_rfl) ltmps_k38_5 lmem_k38_5 louts_k38_5 (fun a b kn kr=>ltree_k38_5 F_k40 a.1 a.2.1 a.2.2.1 a.2.2.2.1 b.1.1 b.1.2.1 b.1.2.2.1 b.2.1 b.2.2.1 b.2.2.2.1 b.2.2.2.2.1 b.2.2.2.2.2.1 b.2.2.2.2.2.2.1 b.2.2.2.2.2.2.2.1 b.2.2.2.2.2.2.2.2.1 kn kr) (fun a b=>hl_k38_5 F_k40 F_k43 a.1 a.2.1 a.2.2.1 a.2.2.2.1 b.1.1 b.1.2.1 b.1.2.2.1 b.2.1 b.2.2.1 b.2.2.2.1 b.2.2.2.2.1 b.2.2.2.2.2.1 b.2.2.2.2.2.2.1 b.2.2.2.2.2.2.2.1 b.2.2.2.2.2.2.2.2.1 _ _) (fun a b kn kr=>nl_k38_5 F_k40 a.1 a.2.1 a.2.2.1 a.2.2.2.1 b.1.1 b.1.2.1 b.1.2.2.1 b.2.1 b.2.2.1 b.2.2.2.1 b.2.2.2.2.1 b.2.2.2.2.2.1 b.2.2.2.2.2.2.1 b.2.2.2.2.2.2.2.1 b.2.2.2.2.2.2.2.2.1 kn kr)
theorem hl_k38_14 (F_k40:B_k40) (F_k43:B_k43) (L_k38_5:LT_k38_5→LM_k38_5→Option LO_k38_5) (x1:List Int) (x2:Int) (x3:Int) (x4:List Int) (x5:Int) (x6:Bool) (x7:Y1) (x8:Y1) (x9:Y2) (x10:Y3) (x11:Y4) (x12:Y5) (x13:Yb) (x14:List (List Int)) {α:Type} (kn:St→Option α) (K:Out→St→Option α):round (table [(33,⟨args_k40,mem_k40,outs_k40,F_k40⟩),(49,⟨args_k43,mem_k43,outs_k43,F_k43⟩)] [(5,⟨ltmps_k38_5,lmem_k38_5,louts_k38_5,L_k38_5⟩)]) br_k38 (an_k38 14) (fd_k38.loop 14) kn ⟨ltmps_k38_14.svs (x1,x2,x3,()),lmem_k38_14.mem ((x4,x5,x6,()),x7,x8,x9,x10,x11,x12,x13,x14,())⟩ K = ltree_k38_14 F_k43 x1 x2 x3 x4 x5 x6 x7 x8 x9 x10 x11 x12 x13 x14 (fun a b=>kn ⟨ltmps_k38_14.svs a,lmem_k38_14.mem b⟩) (fun r=>outLsRun louts_k38_14 r K):=by kernel_rfl
noncomputable def D_k38_14:LCon:=⟨ltmps_k38_14,lmem_k38_14,louts_k38_14,L_k38_14⟩
theorem kl_k38_14:Known Try.prog fd_k38 [(33,C_k40),(49,C_k43)] [(5,D_k38_5)]:=known_of mixT (by kernel_rfl) ⟨ok_k40,ok_k43,trivial⟩ ⟨okl_k38_5,trivial⟩
theorem okl_k38_14:LConOK Try.prog (fd_k38.loop 14) D_k38_14:=lcon_of kl_k38_14 (byRef:=br_k38) (lan:=an_k38 14) (id:=14) (by kernel_rfl) ltmps_k38_14 lmem_k38_14 louts_k38_14 (fun a b kn kr=>ltree_k38_14 F_k43 a.1 a.2.1 a.2.2.1 b.1.1 b.1.2.1 b.1.2.2.1 b.2.1 b.2.2.1 b.2.2.2.1 b.2.2.2.2.1 b.2.2.2.2.2.1 b.2.2.2.2.2.2.1 b.2.2.2.2.2.2.2.1 b.2.2.2.2.2.2.2.2.1 kn kr) (fun a b=>hl_k38_14 F_k40 F_k43 L_k38_5 a.1 a.2.1 a.2.2.1 b.1.1 b.1.2.1 b.1.2.2.1 b.2.1 b.2.2.1 b.2.2.2.1 b.2.2.2.2.1 b.2.2.2.2.2.1 b.2.2.2.2.2.2.1 b.2.2.2.2.2.2.2.1 b.2.2.2.2.2.2.2.2.1 _ _) (fun a b kn kr=>nl_k38_14 F_k43 a.1 a.2.1 a.2.2.1 b.1.1 b.1.2.1 b.1.2.2.1 b.2.1 b.2.2.1 b.2.2.2.1 b.2.2.2.2.1 b.2.2.2.2.2.1 b.2.2.2.2.2.2.1 b.2.2.2.2.2.2.2.1 b.2.2.2.2.2.2.2.2.1 kn kr)
theorem h_k38 (F_k40:B_k40) (F_k43:B_k43) (L_k38_5:LT_k38_5→LM_k38_5→Option LO_k38_5) (L_k38_14:LT_k38_14→LM_k38_14→Option LO_k38_14) x1 x2 x3 x4 x5 x6 x7 x8 x9 x10 x11 x12 {α:Type} (K:SV→Mem→Option α):callBody (table [(33,⟨args_k40,mem_k40,outs_k40,F_k40⟩),(49,⟨args_k43,mem_k43,outs_k43,F_k43⟩)] [(5,⟨ltmps_k38_5,lmem_k38_5,louts_k38_5,L_k38_5⟩),(14,⟨ltmps_k38_14,lmem_k38_14,louts_k38_14,L_k38_14⟩)]) br_k38 rc_k38 fd_k38 (args_k38.svs (x1,x2,())) (mem_k38.mem ((x3,x4,x5,()),x6,x7,x8,x9,x10,x11,x12,())) K = tree_k38 L_k38_5 L_k38_14 x1 x2 x3 x4 x5 x6 x7 x8 x9 x10 x11 x12 (fun r=>outsRun outs_k38 r K):=by kernel_rfl
noncomputable def C_k38:Con:=⟨args_k38,mem_k38,outs_k38,F_k38⟩
theorem k_k38:Known Try.prog fd_k38 [(33,C_k40),(49,C_k43)] [(5,D_k38_5),(14,D_k38_14)]:=known_of mixT (by kernel_rfl) ⟨ok_k40,ok_k43,trivial⟩ ⟨okl_k38_5,okl_k38_14,trivial⟩
theorem fn_k38:FnOK Try.prog an_k38 15 Try.f15 fd_k38:=fnOK (by kernel_rfl) (by kernel_rfl) (by kernel_rfl)
theorem ok_k38:ConOK Try.prog 15 C_k38:=con_of k_k38 (byRef:=br_k38) fn_k38 rc_k38 args_k38 mem_k38 outs_k38 (fun a b K=>tree_k38 L_k38_5 L_k38_14 a.1 a.2.1 b.1.1 b.1.2.1 b.1.2.2.1 b.2.1 b.2.2.1 b.2.2.2.1 b.2.2.2.2.1 b.2.2.2.2.2.1 b.2.2.2.2.2.2.1 b.2.2.2.2.2.2.2.1 K) (fun a b=>h_k38 F_k40 F_k43 L_k38_5 L_k38_14 _ _ _ _ _ _ _ _ _ _ _ _ _) (fun a b K=>n_k38 L_k38_5 L_k38_14 _ _ _ _ _ _ _ _ _ _ _ _ K)
def an_k45:Nat→LAnn:=fun n=>(find n [(5,⟨5,[3,15,16,17],[],[2,4,5,17,18,19,20,21,22,23,24,25,26,27,28,29],[2]⟩)]).getD ⟨0,[],[],[],[]⟩
noncomputable def fd_k45:FD:=fdOf Try.prog an_k45 Try.f51
def br_k45:FuncId→CC:=fun f=>⟨([]:List Nat).contains f,(find f []).getD [],(find f []).getD []⟩
def rc_k45:RC:=⟨true,[],[]⟩
theorem hl_k45_5 (x1:Int) (x2:List (List Int)) (x3:Int) (x4:Int) {α:Type} (kn:St→Option α) (K:Out→St→Option α):round (table [] []) br_k45 (an_k45 5) (fd_k45.loop 5) kn ⟨ltmps_k45_5.svs (x1,x2,x3,x4,()),lmem_k45_5.mem ()⟩ K = ltree_k45_5 x1 x2 x3 x4 (fun a b=>kn ⟨ltmps_k45_5.svs a,lmem_k45_5.mem b⟩) (fun r=>outLsRun louts_k45_5 r K):=by kernel_rfl
noncomputable def D_k45_5:LCon:=⟨ltmps_k45_5,lmem_k45_5,louts_k45_5,L_k45_5⟩
theorem kl_k45_5:Known Try.prog fd_k45 [] []:=known_of mixT (by kernel_rfl) trivial trivial
theorem okl_k45_5:LConOK Try.prog (fd_k45.loop 5) D_k45_5:=lcon_of kl_k45_5 (byRef:=br_k45) (lan:=an_k45 5) (id:=5) (by kernel_rfl) ltmps_k45_5 lmem_k45_5 louts_k45_5 (fun a b kn kr=>ltree_k45_5 a.1 a.2.1 a.2.2.1 a.2.2.2.1 kn kr) (fun a b=>hl_k45_5 a.1 a.2.1 a.2.2.1 a.2.2.2.1 _ _) (fun a b kn kr=>nl_k45_5 a.1 a.2.1 a.2.2.1 a.2.2.2.1 kn kr)
theorem h_k45 (L_k45_5:LT_k45_5→LM_k45_5→Option LO_k45_5) x1 {α:Type} (K:SV→Mem→Option α):callBody (table [] [(5,⟨ltmps_k45_5,lmem_k45_5,louts_k45_5,L_k45_5⟩)]) br_k45 rc_k45 fd_k45 (args_k45.svs (x1,())) (mem_k45.mem ()) K = tree_k45 L_k45_5 x1 (fun r=>outsRun outs_k45 r K):=by kernel_rfl
noncomputable def C_k45:Con:=⟨args_k45,mem_k45,outs_k45,F_k45⟩
theorem k_k45:Known Try.prog fd_k45 [] [(5,D_k45_5)]:=known_of mixT (by kernel_rfl) trivial ⟨okl_k45_5,trivial⟩
theorem fn_k45:FnOK Try.prog an_k45 51 Try.f51 fd_k45:=fnOK (by kernel_rfl) (by kernel_rfl) (by kernel_rfl)
theorem ok_k45:ConOK Try.prog 51 C_k45:=con_of k_k45 (byRef:=br_k45) fn_k45 rc_k45 args_k45 mem_k45 outs_k45 (fun a b K=>tree_k45 L_k45_5 a.1 K) (fun a b=>h_k45 L_k45_5 _ _) (fun a b K=>n_k45 L_k45_5 _ K)
def an_k42:Nat→LAnn:=fun n=>(find n [(5,⟨5,[0,1,6,25,26],[(.slot 6,506,41,.cons (.int .u64) .nil)],[6,7,26,27,28,29,30,31,32,33,34,35,36,37,38,39,40,41,42],[6]⟩)]).getD ⟨0,[],[],[],[]⟩
noncomputable def fd_k42:FD:=fdOf Try.prog an_k42 Try.f23
def br_k42:FuncId→CC:=fun f=>⟨([]:List Nat).contains f,(find f []).getD [],(find f []).getD []⟩
def rc_k42:RC:=⟨true,[],[]⟩
theorem hl_k42_5 (F_k45:B_k45) (x1:List (List Int)) (x2:Int) (x3:Int) (x4:Int) (x5:List Int) {α:Type} (kn:St→Option α) (K:Out→St→Option α):round (table [(51,⟨args_k45,mem_k45,outs_k45,F_k45⟩)] []) br_k42 (an_k42 5) (fd_k42.loop 5) kn ⟨ltmps_k42_5.svs (x1,x2,x3,x4,()),lmem_k42_5.mem (x5,())⟩ K = ltree_k42_5 x1 x2 x3 x4 x5 (fun a b=>kn ⟨ltmps_k42_5.svs a,lmem_k42_5.mem b⟩) (fun r=>outLsRun louts_k42_5 r K):=by kernel_rfl
noncomputable def D_k42_5:LCon:=⟨ltmps_k42_5,lmem_k42_5,louts_k42_5,L_k42_5⟩
theorem kl_k42_5:Known Try.prog fd_k42 [(51,C_k45)] []:=known_of mixT (by kernel_rfl) ⟨ok_k45,trivial⟩ trivial
theorem okl_k42_5:LConOK Try.prog (fd_k42.loop 5) D_k42_5:=lcon_of kl_k42_5 (byRef:=br_k42) (lan:=an_k42 5) (id:=5) (by kernel_rfl) ltmps_k42_5 lmem_k42_5 louts_k42_5 (fun a b kn kr=>ltree_k42_5 a.1 a.2.1 a.2.2.1 a.2.2.2.1 b.1 kn kr) (fun a b=>hl_k42_5 F_k45 a.1 a.2.1 a.2.2.1 a.2.2.2.1 b.1 _ _) (fun a b kn kr=>nl_k42_5 a.1 a.2.1 a.2.2.1 a.2.2.2.1 b.1 kn kr)
theorem h_k42 (F_k45:B_k45) (L_k42_5:LT_k42_5→LM_k42_5→Option LO_k42_5) x1 x2 {α:Type} (K:SV→Mem→Option α):callBody (table [(51,⟨args_k45,mem_k45,outs_k45,F_k45⟩)] [(5,⟨ltmps_k42_5,lmem_k42_5,louts_k42_5,L_k42_5⟩)]) br_k42 rc_k42 fd_k42 (args_k42.svs (x1,x2,())) (mem_k42.mem ()) K = tree_k42 F_k45 L_k42_5 x1 x2 (fun r=>outsRun outs_k42 r K):=by kernel_rfl
noncomputable def C_k42:Con:=⟨args_k42,mem_k42,outs_k42,F_k42⟩
theorem k_k42:Known Try.prog fd_k42 [(51,C_k45)] [(5,D_k42_5)]:=known_of mixT (by kernel_rfl) ⟨ok_k45,trivial⟩ ⟨okl_k42_5,trivial⟩
theorem fn_k42:FnOK Try.prog an_k42 23 Try.f23 fd_k42:=fnOK (by kernel_rfl) (by kernel_rfl) (by kernel_rfl)
theorem ok_k42:ConOK Try.prog 23 C_k42:=con_of k_k42 (byRef:=br_k42) fn_k42 rc_k42 args_k42 mem_k42 outs_k42 (fun a b K=>tree_k42 F_k45 L_k42_5 a.1 a.2.1 K) (fun a b=>h_k42 F_k45 L_k42_5 _ _ _) (fun a b K=>n_k42 F_k45 L_k42_5 _ _ K)
def an_k39:Nat→LAnn:=fun n=>(find n [(5,⟨5,[0,2,10,30,31,32],[],[10,11,12,32,33,34,35,36,37,38,39,40,41,42,43,44],[10]⟩)]).getD ⟨0,[],[],[],[]⟩
noncomputable def fd_k39:FD:=fdOf Try.prog an_k39 Try.f24
def br_k39:FuncId→CC:=fun f=>⟨([33,52]:List Nat).contains f,(find f [(33,[0,1,2,3,4,5,6,7,8,9,10,11]),(52,[0,1,2,3,4,5,6,7,8,9,10,11])]).getD [],(find f [(33,[(0,9,9,.cons .str .nil)]),(52,[(0,9,9,.cons .str .nil)])]).getD []⟩
def rc_k39:RC:=⟨true,[(2,9,9,.cons .str .nil)],[]⟩
theorem hl_k39_5 (F_k40:B_k40) (F_k44:B_k44) (x1:Int) (x2:Int) (x3:List Int) (x4:Int) (x5:Int) (x6:List Int) (x7:Int) (x8:Bool) (x9:Y1) (x10:Y1) (x11:Y2) (x12:Y3) (x13:Y4) (x14:Y5) (x15:Yb) {α:Type} (kn:St→Option α) (K:Out→St→Option α):round (table [(33,⟨args_k40,mem_k40,outs_k40,F_k40⟩),(52,⟨args_k44,mem_k44,outs_k44,F_k44⟩)] []) br_k39 (an_k39 5) (fd_k39.loop 5) kn ⟨ltmps_k39_5.svs (x1,x2,x3,x4,x5,()),lmem_k39_5.mem ((x6,x7,x8,()),x9,x10,x11,x12,x13,x14,x15,())⟩ K = ltree_k39_5 F_k44 x1 x2 x3 x4 x5 x6 x7 x8 x9 x10 x11 x12 x13 x14 x15 (fun a b=>kn ⟨ltmps_k39_5.svs a,lmem_k39_5.mem b⟩) (fun r=>outLsRun louts_k39_5 r K):=by kernel_rfl
noncomputable def D_k39_5:LCon:=⟨ltmps_k39_5,lmem_k39_5,louts_k39_5,L_k39_5⟩
theorem kl_k39_5:Known Try.prog fd_k39 [(33,C_k40),(52,C_k44)] []:=known_of mixT (by kernel_rfl) ⟨ok_k40,ok_k44,trivial⟩ trivial
theorem okl_k39_5:LConOK Try.prog (fd_k39.loop 5) D_k39_5:=lcon_of kl_k39_5 (byRef:=br_k39) (lan:=an_k39 5) (id:=5) (by kernel_rfl) ltmps_k39_5 lmem_k39_5 louts_k39_5 (fun a b kn kr=>ltree_k39_5 F_k44 a.1 a.2.1 a.2.2.1 a.2.2.2.1 a.2.2.2.2.1 b.1.1 b.1.2.1 b.1.2.2.1 b.2.1 b.2.2.1 b.2.2.2.1 b.2.2.2.2.1 b.2.2.2.2.2.1 b.2.2.2.2.2.2.1 b.2.2.2.2.2.2.2.1 kn kr) (fun a b=>hl_k39_5 F_k40 F_k44 a.1 a.2.1 a.2.2.1 a.2.2.2.1 a.2.2.2.2.1 b.1.1 b.1.2.1 b.1.2.2.1 b.2.1 b.2.2.1 b.2.2.2.1 b.2.2.2.2.1 b.2.2.2.2.2.1 b.2.2.2.2.2.2.1 b.2.2.2.2.2.2.2.1 _ _) (fun a b kn kr=>nl_k39_5 F_k44 a.1 a.2.1 a.2.2.1 a.2.2.2.1 a.2.2.2.2.1 b.1.1 b.1.2.1 b.1.2.2.1 b.2.1 b.2.2.1 b.2.2.2.1 b.2.2.2.2.1 b.2.2.2.2.2.1 b.2.2.2.2.2.2.1 b.2.2.2.2.2.2.2.1 kn kr)
theorem h_k39 (F_k40:B_k40) (F_k44:B_k44) (L_k39_5:LT_k39_5→LM_k39_5→Option LO_k39_5) x1 x2 x3 x4 x5 x6 x7 x8 x9 x10 x11 x12 x13 {α:Type} (K:SV→Mem→Option α):callBody (table [(33,⟨args_k40,mem_k40,outs_k40,F_k40⟩),(52,⟨args_k44,mem_k44,outs_k44,F_k44⟩)] [(5,⟨ltmps_k39_5,lmem_k39_5,louts_k39_5,L_k39_5⟩)]) br_k39 rc_k39 fd_k39 (args_k39.svs (x1,x2,x3,())) (mem_k39.mem ((x4,x5,x6,()),x7,x8,x9,x10,x11,x12,x13,())) K = tree_k39 F_k40 L_k39_5 x1 x2 x3 x4 x5 x6 x7 x8 x9 x10 x11 x12 x13 (fun r=>outsRun outs_k39 r K):=by kernel_rfl
noncomputable def C_k39:Con:=⟨args_k39,mem_k39,outs_k39,F_k39⟩
theorem k_k39:Known Try.prog fd_k39 [(33,C_k40),(52,C_k44)] [(5,D_k39_5)]:=known_of mixT (by kernel_rfl) ⟨ok_k40,ok_k44,trivial⟩ ⟨okl_k39_5,trivial⟩
theorem fn_k39:FnOK Try.prog an_k39 24 Try.f24 fd_k39:=fnOK (by kernel_rfl) (by kernel_rfl) (by kernel_rfl)
theorem ok_k39:ConOK Try.prog 24 C_k39:=con_of k_k39 (byRef:=br_k39) fn_k39 rc_k39 args_k39 mem_k39 outs_k39 (fun a b K=>tree_k39 F_k40 L_k39_5 a.1 a.2.1 a.2.2.1 b.1.1 b.1.2.1 b.1.2.2.1 b.2.1 b.2.2.1 b.2.2.2.1 b.2.2.2.2.1 b.2.2.2.2.2.1 b.2.2.2.2.2.2.1 b.2.2.2.2.2.2.2.1 K) (fun a b=>h_k39 F_k40 F_k44 L_k39_5 _ _ _ _ _ _ _ _ _ _ _ _ _ _) (fun a b K=>n_k39 F_k40 L_k39_5 _ _ _ _ _ _ _ _ _ _ _ _ _ K)
end Go.Proofs.Ytljfdfghagiblaa.S2
