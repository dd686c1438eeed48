/- The program's functions come to their plain forms,by program. -/
import Derived.Test.YtljfdfghagiblaaGmerkle
import Derived.Test.YtljfdfghagiblaaHmerkle0
import Derived.Test.YtljfdfghagiblaaAbove
set_option maxRecDepth 100000
set_option maxHeartbeats 0
set_option linter.unusedVariables false
set_option linter.unusedSimpArgs false
namespace Go.Proofs.Ytljfdfghagiblaa.S2
open Go
noncomputable def C_k48:Con:=⟨args_k48,mem_k48,outs_k48,F_k48⟩
theorem ok_k48:ConOK Try.prog 49 C_k48:=Above.holds
def an_k43:Nat→LAnn:=fun n=>(find n [(14,⟨14,[0,8,11,47,48],[(.slot 11,511,22,.cons (.slc 41 (.cons (.int .u64) .nil)) .nil)],[8,11,48,49,50,51,52,53,54,55,56,57],[11]⟩),(5,⟨5,[0,1,2,8,26,27],[(.slot 8,508,41,.cons (.int .u64) .nil)],[8,9,10,27,28,29,30,31,32,33,34,35,36,37,38,39,40,41,42,43,44],[0,1,8]⟩)]).getD ⟨0,[],[],[],[]⟩
noncomputable def fd_k43:FD:=fdOf Try.prog an_k43 Try.f15
def br_k43:FuncId→CC:=fun f=>⟨([33,49]:List Nat).contains f,(find f [(33,[0,1,2,3,4,5,6,7,8,9,10,11]),(49,[0,1,2,3,4,5,6,7,8,9,10,11])]).getD [],(find f [(33,[(0,9,9,.cons .str .nil)]),(49,[(0,9,9,.cons .str .nil)])]).getD []⟩
def rc_k43:RC:=⟨true,[(2,9,9,.cons .str .nil)],[]⟩
theorem hl_k43_5 (F_k45:B_k45) (F_k48:B_k48) (x1:Int) (x2:Yb) (x3:Int) (x4:Int) (x5:List Int) (x6:Int) (x7:Bool) (x8:Y1) (x9:Y1) (x10:Y2) (x11:Y3) (x12:Y4) (x13:Y5) (x14:Yb) (x15:List Int) {α:Type} (kn:St→Option α) (K:Out→St→Option α):round (table [(33,⟨args_k45,mem_k45,outs_k45,F_k45⟩),(49,⟨args_k48,mem_k48,outs_k48,F_k48⟩)] []) br_k43 (an_k43 5) (fd_k43.loop 5) kn ⟨ltmps_k43_5.svs (x1,x2,x3,x4,()),lmem_k43_5.mem ((x5,x6,x7,()),x8,x9,x10,x11,x12,x13,x14,x15,())⟩ K = ltree_k43_5 F_k45 x1 x2 x3 x4 x5 x6 x7 x8 x9 x10 x11 x12 x13 x14 x15 (fun a b=>kn ⟨ltmps_k43_5.svs a,lmem_k43_5.mem b⟩) (fun r=>outLsRun louts_k43_5 r K):=by kernel_rfl
noncomputable def D_k43_5:LCon:=⟨ltmps_k43_5,lmem_k43_5,louts_k43_5,L_k43_5⟩
theorem kl_k43_5:Known Try.prog fd_k43 [(33,C_k45),(49,C_k48)] []:=known_of mixT (by kernel_rfl) ⟨ok_k45,ok_k48,trivial⟩ trivial
theorem okl_k43_5:LConOK Try.prog (fd_k43.loop 5) D_k43_5:=lcon_of kl_k43_5 (byRef:=br_k43) (lan:=an_k43 5) (id:=5) (by kernel_rfl) ltmps_k43_5 lmem_k43_5 louts_k43_5 (fun a b kn kr=>ltree_k43_5 F_k45 a.1 a.2.1 a.2.2.1 a.2.2.2.1 b.1.1 b.1.2.1 b.1.2.2.1 b.2.1 b.2.2.1 b.2.2.2.1 b.2.2.2.2.1 b.2.2.2.2.2.1 b.2.2.2.2.2.2.1 b.2.2.2.2.2.2.2.1 b.2.2.2.2.2.2.2.2.1 kn kr) (fun a b=>hl_k43_5 F_k45 F_k48 a.1 a.2.1 a.2.2.1 a.2.2.2.1 b.1.1 b.1.2.1 b.1.2.2.1 b.2.1 b.2.2.1 b.2.2.2.1 b.2.2.2.2.1 b.2.2.2.2.2.1 b.2.2.2.2.2.2.1 b.2.2.2.2.2.2.2.1 b.2.2.2.2.2.2.2.2.1 _ _) (fun a b kn kr=>nl_k43_5 F_k45 a.1 a.2.1 a.2.2.1 a.2.2.2.1 b.1.1 b.1.2.1 b.1.2.2.1 b.2.1 b.2.2.1 b.2.2.2.1 b.2.2.2.2.1 b.2.2.2.2.2.1 b.2.2.2.2.2.2.1 b.2.2.2.2.2.2.2.1 b.2.2.2.2.2.2.2.2.1 kn kr)
theorem hl_k43_14 (F_k45:B_k45) (F_k48:B_k48) (L_k43_5:LT_k43_5→LM_k43_5→Option LO_k43_5) (x1:List Int) (x2:Int) (x3:Int) (x4:List Int) (x5:Int) (x6:Bool) (x7:Y1) (x8:Y1) (x9:Y2) (x10:Y3) (x11:Y4) (x12:Y5) (x13:Yb) (x14:List (List Int)) {α:Type} (kn:St→Option α) (K:Out→St→Option α):round (table [(33,⟨args_k45,mem_k45,outs_k45,F_k45⟩),(49,⟨args_k48,mem_k48,outs_k48,F_k48⟩)] [(5,⟨ltmps_k43_5,lmem_k43_5,louts_k43_5,L_k43_5⟩)]) br_k43 (an_k43 14) (fd_k43.loop 14) kn ⟨ltmps_k43_14.svs (x1,x2,x3,()),lmem_k43_14.mem ((x4,x5,x6,()),x7,x8,x9,x10,x11,x12,x13,x14,())⟩ K = ltree_k43_14 F_k48 x1 x2 x3 x4 x5 x6 x7 x8 x9 x10 x11 x12 x13 x14 (fun a b=>kn ⟨ltmps_k43_14.svs a,lmem_k43_14.mem b⟩) (fun r=>outLsRun louts_k43_14 r K):=by kernel_rfl
noncomputable def D_k43_14:LCon:=⟨ltmps_k43_14,lmem_k43_14,louts_k43_14,L_k43_14⟩
theorem kl_k43_14:Known Try.prog fd_k43 [(33,C_k45),(49,C_k48)] [(5,D_k43_5)]:=known_of mixT (by kernel_rfl) ⟨ok_k45,ok_k48,trivial⟩ ⟨okl_k43_5,trivial⟩
theorem okl_k43_14:LConOK Try.prog (fd_k43.loop 14) D_k43_14:=lcon_of kl_k43_14 (byRef:=br_k43) (lan:=an_k43 14) (id:=14) (by kernel_rfl) ltmps_k43_14 lmem_k43_14 louts_k43_14 (fun a b kn kr=>ltree_k43_14 F_k48 a.1 a.2.1 a.2.2.1 b.1.1 b.1.2.1 b.1.2.2.1 b.2.1 b.2.2.1 b.2.2.2.1 b.2.2.2.2.1 b.2.2.2.2.2.1 b.2.2.2.2.2.2.1 b.2.2.2.2.2.2.2.1 b.2.2.2.2.2.2.2.2.1 kn kr) (fun a b=>hl_k43_14 F_k45 F_k48 L_k43_5 a.1 a.2.1 a.2.2.1 b.1.1 b.1.2.1 b.1.2.2.1 b.2.1 b.2.2.1 b.2.2.2.1 b.2.2.2.2.1 b.2.2.2.2.2.1 b.2.2.2.2.2.2.1 b.2.2.2.2.2.2.2.1 b.2.2.2.2.2.2.2.2.1 _ _) (fun a b kn kr=>nl_k43_14 F_k48 a.1 a.2.1 a.2.2.1 b.1.1 b.1.2.1 b.1.2.2.1 b.2.1 b.2.2.1 b.2.2.2.1 b.2.2.2.2.1 b.2.2.2.2.2.1 b.2.2.2.2.2.2.1 b.2.2.2.2.2.2.2.1 b.2.2.2.2.2.2.2.2.1 kn kr)
theorem h_k43 (F_k45:B_k45) (F_k48:B_k48) (L_k43_5:LT_k43_5→LM_k43_5→Option LO_k43_5) (L_k43_14:LT_k43_14→LM_k43_14→Option LO_k43_14) x1 x2 x3 x4 x5 x6 x7 x8 x9 x10 x11 x12 {α:Type} (K:SV→Mem→Option α):callBody (table [(33,⟨args_k45,mem_k45,outs_k45,F_k45⟩),(49,⟨args_k48,mem_k48,outs_k48,F_k48⟩)] [(5,⟨ltmps_k43_5,lmem_k43_5,louts_k43_5,L_k43_5⟩),(14,⟨ltmps_k43_14,lmem_k43_14,louts_k43_14,L_k43_14⟩)]) br_k43 rc_k43 fd_k43 (args_k43.svs (x1,x2,())) (mem_k43.mem ((x3,x4,x5,()),x6,x7,x8,x9,x10,x11,x12,())) K = tree_k43 L_k43_5 L_k43_14 x1 x2 x3 x4 x5 x6 x7 x8 x9 x10 x11 x12 (fun r=>outsRun outs_k43 r K):=by kernel_rfl
noncomputable def C_k43:Con:=⟨args_k43,mem_k43,outs_k43,F_k43⟩
theorem k_k43:Known Try.prog fd_k43 [(33,C_k45),(49,C_k48)] [(5,D_k43_5),(14,D_k43_14)]:=known_of mixT (by kernel_rfl) ⟨ok_k45,ok_k48,trivial⟩ ⟨okl_k43_5,okl_k43_14,trivial⟩
theorem fn_k43:FnOK Try.prog an_k43 15 Try.f15 fd_k43:=fnOK (by kernel_rfl) (by kernel_rfl) (by kernel_rfl)
theorem ok_k43:ConOK Try.prog 15 C_k43:=con_of k_k43 (byRef:=br_k43) fn_k43 rc_k43 args_k43 mem_k43 outs_k43 (fun a b K=>tree_k43 L_k43_5 L_k43_14 a.1 a.2.1 b.1.1 b.1.2.1 b.1.2.2.1 b.2.1 b.2.2.1 b.2.2.2.1 b.2.2.2.2.1 b.2.2.2.2.2.1 b.2.2.2.2.2.2.1 b.2.2.2.2.2.2.2.1 K) (fun a b=>h_k43 F_k45 F_k48 L_k43_5 L_k43_14 _ _ _ _ _ _ _ _ _ _ _ _ _) (fun a b K=>n_k43 L_k43_5 L_k43_14 _ _ _ _ _ _ _ _ _ _ _ _ K)
def an_k50:Nat→LAnn:=fun n=>(find n [(5,⟨5,[3,15,16,17],[],[2,4,5,17,18,19,20,21,22,23,24,25,26,27,28,29],[2]⟩)]).getD ⟨0,[],[],[],[]⟩
noncomputable def fd_k50:FD:=fdOf Try.prog an_k50 Try.f51
def br_k50:FuncId→CC:=fun f=>⟨([]:List Nat).contains f,(find f []).getD [],(find f []).getD []⟩
def rc_k50:RC:=⟨true,[],[]⟩
theorem hl_k50_5 (x1:Int) (x2:List (List Int)) (x3:Int) (x4:Int) {α:Type} (kn:St→Option α) (K:Out→St→Option α):round (table [] []) br_k50 (an_k50 5) (fd_k50.loop 5) kn ⟨ltmps_k50_5.svs (x1,x2,x3,x4,()),lmem_k50_5.mem ()⟩ K = ltree_k50_5 x1 x2 x3 x4 (fun a b=>kn ⟨ltmps_k50_5.svs a,lmem_k50_5.mem b⟩) (fun r=>outLsRun louts_k50_5 r K):=by kernel_rfl
noncomputable def D_k50_5:LCon:=⟨ltmps_k50_5,lmem_k50_5,louts_k50_5,L_k50_5⟩
theorem kl_k50_5:Known Try.prog fd_k50 [] []:=known_of mixT (by kernel_rfl) trivial trivial
theorem okl_k50_5:LConOK Try.prog (fd_k50.loop 5) D_k50_5:=lcon_of kl_k50_5 (byRef:=br_k50) (lan:=an_k50 5) (id:=5) (by kernel_rfl) ltmps_k50_5 lmem_k50_5 louts_k50_5 (fun a b kn kr=>ltree_k50_5 a.1 a.2.1 a.2.2.1 a.2.2.2.1 kn kr) (fun a b=>hl_k50_5 a.1 a.2.1 a.2.2.1 a.2.2.2.1 _ _) (fun a b kn kr=>nl_k50_5 a.1 a.2.1 a.2.2.1 a.2.2.2.1 kn kr)
theorem h_k50 (L_k50_5:LT_k50_5→LM_k50_5→Option LO_k50_5) x1 {α:Type} (K:SV→Mem→Option α):callBody (table [] [(5,⟨ltmps_k50_5,lmem_k50_5,louts_k50_5,L_k50_5⟩)]) br_k50 rc_k50 fd_k50 (args_k50.svs (x1,())) (mem_k50.mem ()) K = tree_k50 L_k50_5 x1 (fun r=>outsRun outs_k50 r K):=by kernel_rfl
noncomputable def C_k50:Con:=⟨args_k50,mem_k50,outs_k50,F_k50⟩
theorem k_k50:Known Try.prog fd_k50 [] [(5,D_k50_5)]:=known_of mixT (by kernel_rfl) trivial ⟨okl_k50_5,trivial⟩
theorem fn_k50:FnOK Try.prog an_k50 51 Try.f51 fd_k50:=fnOK (by kernel_rfl) (by kernel_rfl) (by kernel_rfl)
theorem ok_k50:ConOK Try.prog 51 C_k50:=con_of k_k50 (byRef:=br_k50) fn_k50 rc_k50 args_k50 mem_k50 outs_k50 (fun a b K=>tree_k50 L_k50_5 a.1 K) (fun a b=>h_k50 L_k50_5 _ _) (fun a b K=>n_k50 L_k50_5 _ K)
def an_k47:Nat→LAnn:=fun n=>(find n [(5,⟨5,[0,1,6,25,26],[(.slot 6,506,41,.cons (.int .u64) .nil)],[6,7,26,27,28,29,30,31,32,33,34,35,36,37,38,39,40,41,42],[6]⟩)]).getD ⟨0,[],[],[],[]⟩
noncomputable def fd_k47:FD:=fdOf Try.prog an_k47 Try.f23
def br_k47:FuncId→CC:=fun f=>⟨([]:List Nat).contains f,(find f []).getD [],(find f []).getD []⟩
def rc_k47:RC:=⟨true,[],[]⟩
theorem hl_k47_5 (F_k50:B_k50) (x1:List (List Int)) (x2:Int) (x3:Int) (x4:Int) (x5:List Int) {α:Type} (kn:St→Option α) (K:Out→St→Option α):round (table [(51,⟨args_k50,mem_k50,outs_k50,F_k50⟩)] []) br_k47 (an_k47 5) (fd_k47.loop 5) kn ⟨ltmps_k47_5.svs (x1,x2,x3,x4,()),lmem_k47_5.mem (x5,())⟩ K = ltree_k47_5 x1 x2 x3 x4 x5 (fun a b=>kn ⟨ltmps_k47_5.svs a,lmem_k47_5.mem b⟩) (fun r=>outLsRun louts_k47_5 r K):=by kernel_rfl
noncomputable def D_k47_5:LCon:=⟨ltmps_k47_5,lmem_k47_5,louts_k47_5,L_k47_5⟩
theorem kl_k47_5:Known Try.prog fd_k47 [(51,C_k50)] []:=known_of mixT (by kernel_rfl) ⟨ok_k50,trivial⟩ trivial
theorem okl_k47_5:LConOK Try.prog (fd_k47.loop 5) D_k47_5:=lcon_of kl_k47_5 (byRef:=br_k47) (lan:=an_k47 5) (id:=5) (by kernel_rfl) ltmps_k47_5 lmem_k47_5 louts_k47_5 (fun a b kn kr=>ltree_k47_5 a.1 a.2.1 a.2.2.1 a.2.2.2.1 b.1 kn kr) (fun a b=>hl_k47_5 F_k50 a.1 a.2.1 a.2.2.1 a.2.2.2.1 b.1 _ _) (fun a b kn kr=>nl_k47_5 a.1 a.2.1 a.2.2.1 a.2.2.2.1 b.1 kn kr)
theorem h_k47 (F_k50:B_k50) (L_k47_5:LT_k47_5→LM_k47_5→Option LO_k47_5) x1 x2 {α:Type} (K:SV→Mem→Option α):callBody (table [(51,⟨args_k50,mem_k50,outs_k50,F_k50⟩)] [(5,⟨ltmps_k47_5,lmem_k47_5,louts_k47_5,L_k47_5⟩)]) br_k47 rc_k47 fd_k47 (args_k47.svs (x1,x2,())) (mem_k47.mem ()) K = tree_k47 F_k50 L_k47_5 x1 x2 (fun r=>outsRun outs_k47 r K):=by kernel_rfl
noncomputable def C_k47:Con:=⟨args_k47,mem_k47,outs_k47,F_k47⟩
theorem k_k47:Known Try.prog fd_k47 [(51,C_k50)] [(5,D_k47_5)]:=known_of mixT (by kernel_rfl) ⟨ok_k50,trivial⟩ ⟨okl_k47_5,trivial⟩
theorem fn_k47:FnOK Try.prog an_k47 23 Try.f23 fd_k47:=fnOK (by kernel_rfl) (by kernel_rfl) (by kernel_rfl)
theorem ok_k47:ConOK Try.prog 23 C_k47:=con_of k_k47 (byRef:=br_k47) fn_k47 rc_k47 args_k47 mem_k47 outs_k47 (fun a b K=>tree_k47 F_k50 L_k47_5 a.1 a.2.1 K) (fun a b=>h_k47 F_k50 L_k47_5 _ _ _) (fun a b K=>n_k47 F_k50 L_k47_5 _ _ K)
def an_k44:Nat→LAnn:=fun n=>(find n [(5,⟨5,[0,2,10,30,31,32],[],[10,11,12,32,33,34,35,36,37,38,39,40,41,42,43,44],[10]⟩)]).getD ⟨0,[],[],[],[]⟩
noncomputable def fd_k44:FD:=fdOf Try.prog an_k44 Try.f24
def br_k44:FuncId→CC:=fun f=>⟨([33,52]:List Nat).contains f,(find f [(33,[0,1,2,3,4,5,6,7,8,9,10,11]),(52,[0,1,2,3,4,5,6,7,8,9,10,11])]).getD [],(find f [(33,[(0,9,9,.cons .str .nil)]),(52,[(0,9,9,.cons .str .nil)])]).getD []⟩
def rc_k44:RC:=⟨true,[(2,9,9,.cons .str .nil)],[]⟩
theorem hl_k44_5 (F_k45:B_k45) (F_k49:B_k49) (x1:Int) (x2:Int) (x3:List Int) (x4:Int) (x5:Int) (x6:List Int) (x7:Int) (x8:Bool) (x9:Y1) (x10:Y1) (x11:Y2) (x12:Y3) (x13:Y4) (x14:Y5) (x15:Yb) {α:Type} (kn:St→Option α) (K:Out→St→Option α):round (table [(33,⟨args_k45,mem_k45,outs_k45,F_k45⟩),(52,⟨args_k49,mem_k49,outs_k49,F_k49⟩)] []) br_k44 (an_k44 5) (fd_k44.loop 5) kn ⟨ltmps_k44_5.svs (x1,x2,x3,x4,x5,()),lmem_k44_5.mem ((x6,x7,x8,()),x9,x10,x11,x12,x13,x14,x15,())⟩ K = ltree_k44_5 F_k49 x1 x2 x3 x4 x5 x6 x7 x8 x9 x10 x11 x12 x13 x14 x15 (fun a b=>kn ⟨ltmps_k44_5.svs a,lmem_k44_5.mem b⟩) (fun r=>outLsRun louts_k44_5 r K):=by kernel_rfl
noncomputable def D_k44_5:LCon:=⟨ltmps_k44_5,lmem_k44_5,louts_k44_5,L_k44_5⟩
theorem kl_k44_5:Known Try.prog fd_k44 [(33,C_k45),(52,C_k49)] []:=known_of mixT (by kernel_rfl) ⟨ok_k45,ok_k49,trivial⟩ trivial
theorem okl_k44_5:LConOK Try.prog (fd_k44.loop 5) D_k44_5:=lcon_of kl_k44_5 (byRef:=br_k44) (lan:=an_k44 5) (id:=5) (by kernel_rfl) ltmps_k44_5 lmem_k44_5 louts_k44_5 (fun a b kn kr=>ltree_k44_5 F_k49 a.1 a.2.1 a.2.2.1 a.2.2.2.1 a.2.2.2.2.1 b.1.1 b.1.2.1 b.1.2.2.1 b.2.1 b.2.2.1 b.2.2.2.1 b.2.2.2.2.1 b.2.2.2.2.2.1 b.2.2.2.2.2.2.1 b.2.2.2.2.2.2.2.1 kn kr) (fun a b=>hl_k44_5 F_k45 F_k49 a.1 a.2.1 a.2.2.1 a.2.2.2.1 a.2.2.2.2.1 b.1.1 b.1.2.1 b.1.2.2.1 b.2.1 b.2.2.1 b.2.2.2.1 b.2.2.2.2.1 b.2.2.2.2.2.1 b.2.2.2.2.2.2.1 b.2.2.2.2.2.2.2.1 _ _) (fun a b kn kr=>nl_k44_5 F_k49 a.1 a.2.1 a.2.2.1 a.2.2.2.1 a.2.2.2.2.1 b.1.1 b.1.2.1 b.1.2.2.1 b.2.1 b.2.2.1 b.2.2.2.1 b.2.2.2.2.1 b.2.2.2.2.2.1 b.2.2.2.2.2.2.1 b.2.2.2.2.2.2.2.1 kn kr)
theorem h_k44 (F_k45:B_k45) (F_k49:B_k49) (L_k44_5:LT_k44_5→LM_k44_5→Option LO_k44_5) x1 x2 x3 x4 x5 x6 x7 x8 x9 x10 x11 x12 x13 {α:Type} (K:SV→Mem→Option α):callBody (table [(33,⟨args_k45,mem_k45,outs_k45,F_k45⟩),(52,⟨args_k49,mem_k49,outs_k49,F_k49⟩)] [(5,⟨ltmps_k44_5,lmem_k44_5,louts_k44_5,L_k44_5⟩)]) br_k44 rc_k44 fd_k44 (args_k44.svs (x1,x2,x3,())) (mem_k44.mem ((x4,x5,x6,()),x7,x8,x9,x10,x11,x12,x13,())) K = tree_k44 F_k45 L_k44_5 x1 x2 x3 x4 x5 x6 x7 x8 x9 x10 x11 x12 x13 (fun r=>outsRun outs_k44 r K):=by kernel_rfl
noncomputable def C_k44:Con:=⟨args_k44,mem_k44,outs_k44,F_k44⟩
theorem k_k44:Known Try.prog fd_k44 [(33,C_k45),(52,C_k49)] [(5,D_k44_5)]:=known_of mixT (by kernel_rfl) ⟨ok_k45,ok_k49,trivial⟩ ⟨okl_k44_5,trivial⟩
theorem fn_k44:FnOK Try.prog an_k44 24 Try.f24 fd_k44:=fnOK (by kernel_rfl) (by kernel_rfl) (by kernel_rfl)
theorem ok_k44:ConOK Try.prog 24 C_k44:=con_of k_k44 (byRef:=br_k44) fn_k44 rc_k44 args_k44 mem_k44 outs_k44 (fun a b K=>tree_k44 F_k45 L_k44_5 a.1 a.2.1 a.2.2.1 b.1.1 b.1.2.1 b.1.2.2.1 b.2.1 b.2.2.1 b.2.2.2.1 b.2.2.2.2.1 b.2.2.2.2.2.1 b.2.2.2.2.2.2.1 b.2.2.2.2.2.2.2.1 K) (fun a b=>h_k44 F_k45 F_k49 L_k44_5 _ _ _ _ _ _ _ _ _ _ _ _ _ _) (fun a b K=>n_k44 F_k45 L_k44_5 _ _ _ _ _ _ _ _ _ _ _ _ _ K)
end Go.Proofs.Ytljfdfghagiblaa.S2
