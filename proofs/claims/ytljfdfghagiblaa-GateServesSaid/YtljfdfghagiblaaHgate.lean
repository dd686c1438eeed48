/- The program's functions come to their plain forms,by program. -/
import Derived.Test.YtljfdfghagiblaaGgate
import Derived.Test.YtljfdfghagiblaaHseal
import Derived.Test.YtljfdfghagiblaaHmerkle
import Derived.Test.YtljfdfghagiblaaHstore
set_option maxRecDepth 100000
set_option maxHeartbeats 0
set_option linter.unusedVariables false
set_option linter.unusedSimpArgs false
namespace Go.Proofs.Ytljfdfghagiblaa.S2
open Go
def an_k25:Nat→LAnn:=fun n=>(find n []).getD ⟨0,[],[],[],[]⟩
noncomputable def fd_k25:FD:=fdOf Try.prog an_k25 Try.f60
def br_k25:FuncId→CC:=fun f=>⟨([]:List Nat).contains f,(find f []).getD [],(find f []).getD []⟩
def rc_k25:RC:=⟨false,[],[]⟩
theorem h_k25 x1 x2 x3 x4 x5 x6 x7 x8 x9 x10 x11 x12 x13 x14 x15 x16 {α:Type} (K:SV→Mem→Option α):callBody (table [] []) br_k25 rc_k25 fd_k25 (args_k25.svs (x1,x2,x3,())) (mem_k25.mem ((x4,x5,x6,()),(),x7,x8,x9,x10,x11,x12,x13,(x14,()),x15,x16,())) K = tree_k25 x1 x2 x3 x4 x5 x6 x7 x8 x9 x10 x11 x12 x13 x14 x15 x16 (fun r=>outsRun outs_k25 r K):=by kernel_rfl
noncomputable def C_k25:Con:=⟨args_k25,mem_k25,outs_k25,F_k25⟩
theorem k_k25:Known Try.prog fd_k25 [] []:=known_of mixT (by kernel_rfl) trivial trivial
theorem fn_k25:FnOK Try.prog an_k25 60 Try.f60 fd_k25:=fnOK (by kernel_rfl) (by kernel_rfl) (by kernel_rfl)
theorem ok_k25:ConOK Try.prog 60 C_k25:=con_of k_k25 (byRef:=br_k25) fn_k25 rc_k25 args_k25 mem_k25 outs_k25 (fun a b K=>tree_k25 a.1 a.2.1 a.2.2.1 b.1.1 b.1.2.1 b.1.2.2.1 b.2.2.1 b.2.2.2.1 b.2.2.2.2.1 b.2.2.2.2.2.1 b.2.2.2.2.2.2.1 b.2.2.2.2.2.2.2.1 b.2.2.2.2.2.2.2.2.1 b.2.2.2.2.2.2.2.2.2.1.1 b.2.2.2.2.2.2.2.2.2.2.1 b.2.2.2.2.2.2.2.2.2.2.2.1 K) (fun a b=>h_k25 _ _ _ _ _ _ _ _ _ _ _ _ _ _ _ _ _) (fun a b K=>n_k25 _ _ _ _ _ _ _ _ _ _ _ _ _ _ _ _ K)
def an_k19:Nat→LAnn:=fun n=>(find n []).getD ⟨0,[],[],[],[]⟩
noncomputable def fd_k19:FD:=fdOf Try.prog an_k19 Try.f62
def br_k19:FuncId→CC:=fun f=>⟨([46]:List Nat).contains f,(find f [(46,[0,1,2,3,4,5,6,7,8,9,10,11])]).getD [],(find f []).getD []⟩
def rc_k19:RC:=⟨true,[(3,9,9,.cons .str .nil),(12,2,196,.cons (.int .i64) (.cons .str .nil))],[]⟩
theorem h_k19 (F_k67:B_k67) x1 x2 x3 x4 x5 x6 x7 x8 x9 x10 x11 x12 x13 x14 x15 x16 x17 {α:Type} (K:SV→Mem→Option α):callBody (table [(46,⟨args_k67,mem_k67,outs_k67,F_k67⟩)] []) br_k19 rc_k19 fd_k19 (args_k19.svs (x1,())) (mem_k19.mem ((x2,x3,x4,()),(x5,x6,x7,()),(),x8,x9,x10,x11,x12,x13,x14,(x15,()),x16,x17,())) K = tree_k19 F_k67 x1 x2 x3 x4 x5 x6 x7 x8 x9 x10 x11 x12 x13 x14 x15 x16 x17 (fun r=>outsRun routs_k19 r K):=by kernel_rfl
noncomputable def C_k19:Con:=⟨args_k19,mem_k19,outs_k19,F_k19⟩
theorem k_k19:Known Try.prog fd_k19 [(46,C_k67)] []:=known_of mixT (by kernel_rfl) ⟨ok_k67,trivial⟩ trivial
theorem fn_k19:FnOK Try.prog an_k19 62 Try.f62 fd_k19:=fnOK (by kernel_rfl) (by kernel_rfl) (by kernel_rfl)
noncomputable def CR_k19:Con:=⟨args_k19,mem_k19,routs_k19,R_k19⟩
theorem okr_k19:ConOK Try.prog 62 CR_k19:=con_of k_k19 (byRef:=br_k19) fn_k19 rc_k19 args_k19 mem_k19 routs_k19 (fun a b K=>tree_k19 F_k67 a.1 b.1.1 b.1.2.1 b.1.2.2.1 b.2.1.1 b.2.1.2.1 b.2.1.2.2.1 b.2.2.2.1 b.2.2.2.2.1 b.2.2.2.2.2.1 b.2.2.2.2.2.2.1 b.2.2.2.2.2.2.2.1 b.2.2.2.2.2.2.2.2.1 b.2.2.2.2.2.2.2.2.2.1 b.2.2.2.2.2.2.2.2.2.2.1.1 b.2.2.2.2.2.2.2.2.2.2.2.1 b.2.2.2.2.2.2.2.2.2.2.2.2.1 K) (fun a b=>h_k19 F_k67 _ _ _ _ _ _ _ _ _ _ _ _ _ _ _ _ _ _) (fun a b K=>n_k19 F_k67 _ _ _ _ _ _ _ _ _ _ _ _ _ _ _ _ _ K)
theorem ok_k19:ConOK Try.prog 62 C_k19:=con_reads okr_k19 (by rfl) reads_k19
def an_k23:Nat→LAnn:=fun n=>(find n []).getD ⟨0,[],[],[],[]⟩
noncomputable def fd_k23:FD:=fdOf Try.prog an_k23 Try.f67
def br_k23:FuncId→CC:=fun f=>⟨([46]:List Nat).contains f,(find f [(46,[0,1,2,3,4,5,6,7,8,9,10,11])]).getD [],(find f []).getD []⟩
def rc_k23:RC:=⟨true,[(3,9,9,.cons .str .nil),(12,2,196,.cons (.int .i64) (.cons .str .nil))],[]⟩
theorem h_k23 (F_k67:B_k67) x1 x2 x3 x4 x5 x6 x7 x8 x9 x10 x11 x12 x13 x14 x15 x16 {α:Type} (K:SV→Mem→Option α):callBody (table [(46,⟨args_k67,mem_k67,outs_k67,F_k67⟩)] []) br_k23 rc_k23 fd_k23 (args_k23.svs ()) (mem_k23.mem ((x1,x2,x3,()),(x4,x5,x6,()),(),x7,x8,x9,x10,x11,x12,x13,(x14,()),x15,x16,())) K = tree_k23 F_k67 x1 x2 x3 x4 x5 x6 x7 x8 x9 x10 x11 x12 x13 x14 x15 x16 (fun r=>outsRun routs_k23 r K):=by kernel_rfl
noncomputable def C_k23:Con:=⟨args_k23,mem_k23,outs_k23,F_k23⟩
theorem k_k23:Known Try.prog fd_k23 [(46,C_k67)] []:=known_of mixT (by kernel_rfl) ⟨ok_k67,trivial⟩ trivial
theorem fn_k23:FnOK Try.prog an_k23 67 Try.f67 fd_k23:=fnOK (by kernel_rfl) (by kernel_rfl) (by kernel_rfl)
noncomputable def CR_k23:Con:=⟨args_k23,mem_k23,routs_k23,R_k23⟩
theorem okr_k23:ConOK Try.prog 67 CR_k23:=con_of k_k23 (byRef:=br_k23) fn_k23 rc_k23 args_k23 mem_k23 routs_k23 (fun a b K=>tree_k23 F_k67 b.1.1 b.1.2.1 b.1.2.2.1 b.2.1.1 b.2.1.2.1 b.2.1.2.2.1 b.2.2.2.1 b.2.2.2.2.1 b.2.2.2.2.2.1 b.2.2.2.2.2.2.1 b.2.2.2.2.2.2.2.1 b.2.2.2.2.2.2.2.2.1 b.2.2.2.2.2.2.2.2.2.1 b.2.2.2.2.2.2.2.2.2.2.1.1 b.2.2.2.2.2.2.2.2.2.2.2.1 b.2.2.2.2.2.2.2.2.2.2.2.2.1 K) (fun a b=>h_k23 F_k67 _ _ _ _ _ _ _ _ _ _ _ _ _ _ _ _ _) (fun a b K=>n_k23 F_k67 _ _ _ _ _ _ _ _ _ _ _ _ _ _ _ _ K)
theorem ok_k23:ConOK Try.prog 67 C_k23:=con_reads okr_k23 (by rfl) reads_k23
def an_k24:Nat→LAnn:=fun n=>(find n []).getD ⟨0,[],[],[],[]⟩
noncomputable def fd_k24:FD:=fdOf Try.prog an_k24 Try.f68
def br_k24:FuncId→CC:=fun f=>⟨([89]:List Nat).contains f,(find f [(89,[0,1,2,3,4,5,6,7,8,9,10,11])]).getD [],(find f []).getD []⟩
def rc_k24:RC:=⟨false,[(2,9,9,.cons .str .nil),(11,2,196,.cons (.int .i64) (.cons .str .nil))],[(11,2,12)]⟩
theorem h_k24 (F_k66:B_k66) x1 x2 x3 x4 x5 x6 x7 x8 x9 x10 x11 x12 x13 x14 x15 x16 x17 {α:Type} (K:SV→Mem→Option α):callBody (table [(89,⟨args_k66,mem_k66,outs_k66,F_k66⟩)] []) br_k24 rc_k24 fd_k24 (args_k24.svs (x1,())) (mem_k24.mem ((x2,x3,x4,()),(x5,x6,x7,()),(),x8,x9,x10,x11,x12,x13,x14,(x15,()),x16,x17,())) K = tree_k24 F_k66 x1 x2 x3 x4 x5 x6 x7 x8 x9 x10 x11 x12 x13 x14 x15 x16 x17 (fun r=>outsRun outs_k24 r K):=by kernel_rfl
noncomputable def C_k24:Con:=⟨args_k24,mem_k24,outs_k24,F_k24⟩
theorem k_k24:Known Try.prog fd_k24 [(89,C_k66)] []:=known_of mixT (by kernel_rfl) ⟨ok_k66,trivial⟩ trivial
theorem fn_k24:FnOK Try.prog an_k24 68 Try.f68 fd_k24:=fnOK (by kernel_rfl) (by kernel_rfl) (by kernel_rfl)
theorem ok_k24:ConOK Try.prog 68 C_k24:=con_of k_k24 (byRef:=br_k24) fn_k24 rc_k24 args_k24 mem_k24 outs_k24 (fun a b K=>tree_k24 F_k66 a.1 b.1.1 b.1.2.1 b.1.2.2.1 b.2.1.1 b.2.1.2.1 b.2.1.2.2.1 b.2.2.2.1 b.2.2.2.2.1 b.2.2.2.2.2.1 b.2.2.2.2.2.2.1 b.2.2.2.2.2.2.2.1 b.2.2.2.2.2.2.2.2.1 b.2.2.2.2.2.2.2.2.2.1 b.2.2.2.2.2.2.2.2.2.2.1.1 b.2.2.2.2.2.2.2.2.2.2.2.1 b.2.2.2.2.2.2.2.2.2.2.2.2.1 K) (fun a b=>h_k24 F_k66 _ _ _ _ _ _ _ _ _ _ _ _ _ _ _ _ _ _) (fun a b K=>n_k24 F_k66 _ _ _ _ _ _ _ _ _ _ _ _ _ _ _ _ _ K)
def an_k12:Nat→LAnn:=fun n=>(find n []).getD ⟨0,[],[],[],[]⟩
noncomputable def fd_k12:FD:=fdOf Try.prog an_k12 Try.f41
def br_k12:FuncId→CC:=fun f=>⟨([67,68]:List Nat).contains f,(find f [(67,[0,1,2,3,4,5,6,7,8,9,10,11]),(68,[0,1,2,3,4,5,6,7,8,9,10,11])]).getD [],(find f []).getD []⟩
def rc_k12:RC:=⟨false,[(2,9,9,.cons .str .nil),(11,2,196,.cons (.int .i64) (.cons .str .nil))],[(11,2,12)]⟩
theorem h_k12 (F_k23:B_k23) (F_k24:B_k24) x1 x2 x3 x4 x5 x6 x7 x8 x9 x10 x11 x12 x13 x14 x15 x16 {α:Type} (K:SV→Mem→Option α):callBody (table [(67,⟨args_k23,mem_k23,outs_k23,F_k23⟩),(68,⟨args_k24,mem_k24,outs_k24,F_k24⟩)] []) br_k12 rc_k12 fd_k12 (args_k12.svs ()) (mem_k12.mem ((x1,x2,x3,()),(x4,x5,x6,()),(),x7,x8,x9,x10,x11,x12,x13,(x14,()),x15,x16,())) K = tree_k12 F_k23 F_k24 x1 x2 x3 x4 x5 x6 x7 x8 x9 x10 x11 x12 x13 x14 x15 x16 (fun r=>outsRun outs_k12 r K):=by kernel_rfl
noncomputable def C_k12:Con:=⟨args_k12,mem_k12,outs_k12,F_k12⟩
theorem k_k12:Known Try.prog fd_k12 [(67,C_k23),(68,C_k24)] []:=known_of mixT (by kernel_rfl) ⟨ok_k23,ok_k24,trivial⟩ trivial
theorem fn_k12:FnOK Try.prog an_k12 41 Try.f41 fd_k12:=fnOK (by kernel_rfl) (by kernel_rfl) (by kernel_rfl)
theorem ok_k12:ConOK Try.prog 41 C_k12:=con_of k_k12 (byRef:=br_k12) fn_k12 rc_k12 args_k12 mem_k12 outs_k12 (fun a b K=>tree_k12 F_k23 F_k24 b.1.1 b.1.2.1 b.1.2.2.1 b.2.1.1 b.2.1.2.1 b.2.1.2.2.1 b.2.2.2.1 b.2.2.2.2.1 b.2.2.2.2.2.1 b.2.2.2.2.2.2.1 b.2.2.2.2.2.2.2.1 b.2.2.2.2.2.2.2.2.1 b.2.2.2.2.2.2.2.2.2.1 b.2.2.2.2.2.2.2.2.2.2.1.1 b.2.2.2.2.2.2.2.2.2.2.2.1 b.2.2.2.2.2.2.2.2.2.2.2.2.1 K) (fun a b=>h_k12 F_k23 F_k24 _ _ _ _ _ _ _ _ _ _ _ _ _ _ _ _ _) (fun a b K=>n_k12 F_k23 F_k24 _ _ _ _ _ _ _ _ _ _ _ _ _ _ _ _ K)
def an_k22:Nat→LAnn:=fun n=>(find n [(2,⟨2,[0,1,5,13,14,15],[],[9,15,16,17,18,19,20,21,22,23,24,25],[0,1,5]⟩)]).getD ⟨0,[],[],[],[]⟩
noncomputable def fd_k22:FD:=fdOf Try.prog an_k22 Try.f69
def br_k22:FuncId→CC:=fun f=>⟨([24,26]:List Nat).contains f,(find f [(24,[0,1,2,3,4,5,6,7,8,9,10,11]),(26,[0,1,2,3,4,5,6,7,8,9,10,11])]).getD [],(find f [(24,[(0,9,9,.cons .str .nil)]),(26,[(0,9,9,.cons .str .nil)])]).getD []⟩
def rc_k22:RC:=⟨false,[(3,9,9,.cons .str .nil),(12,2,196,.cons (.int .i64) (.cons .str .nil))],[]⟩
theorem hl_k22_2 (F_k30:B_k30) (F_k49:B_k49) (F_k39:B_k39) (x1:Int) (x2:List Int) (x3:Int) (x4:Int) (x5:Int) (x6:Int) (x7:Int) (x8:List Int) (x9:Int) (x10:Bool) (x11:Y1) (x12:Y1) (x13:Y2) (x14:Y3) (x15:Y4) (x16:Y5) (x17:Yb) (x18:Int) (x19:Yb) (x20:Y6) (x21:ByteArray) (x22:List Int) {α:Type} (kn:St→Option α) (K:Out→St→Option α):round (table [(26,⟨args_k30,mem_k30,outs_k30,F_k30⟩),(70,⟨args_k49,mem_k49,outs_k49,F_k49⟩),(24,⟨args_k39,mem_k39,outs_k39,F_k39⟩)] []) br_k22 (an_k22 2) (fd_k22.loop 2) kn ⟨ltmps_k22_2.svs (x1,x2,x3,x4,()),lmem_k22_2.mem ((x5,x6,x7,()),(x8,x9,x10,()),(),x11,x12,x13,x14,x15,x16,x17,(x18,()),x19,x20,(x21,x22,()),())⟩ K = ltree_k22_2 F_k30 x1 x2 x3 x4 x5 x6 x7 x8 x9 x10 x11 x12 x13 x14 x15 x16 x17 x18 x19 x20 x21 x22 (fun a b=>kn ⟨ltmps_k22_2.svs a,lmem_k22_2.mem b⟩) (fun r=>outLsRun louts_k22_2 r K):=by kernel_rfl
noncomputable def D_k22_2:LCon:=⟨ltmps_k22_2,lmem_k22_2,louts_k22_2,L_k22_2⟩
theorem kl_k22_2:Known Try.prog fd_k22 [(26,C_k30),(70,C_k49),(24,C_k39)] []:=known_of mixT (by kernel_rfl) ⟨ok_k30,ok_k49,ok_k39,trivial⟩ trivial
theorem okl_k22_2:LConOK Try.prog (fd_k22.loop 2) D_k22_2:=lcon_of kl_k22_2 (byRef:=br_k22) (lan:=an_k22 2) (id:=2) (by kernel_rfl) ltmps_k22_2 lmem_k22_2 louts_k22_2 (fun a b kn kr=>ltree_k22_2 F_k30 a.1 a.2.1 a.2.2.1 a.2.2.2.1 b.1.1 b.1.2.1 b.1.2.2.1 b.2.1.1 b.2.1.2.1 b.2.1.2.2.1 b.2.2.2.1 b.2.2.2.2.1 b.2.2.2.2.2.1 b.2.2.2.2.2.2.1 b.2.2.2.2.2.2.2.1 b.2.2.2.2.2.2.2.2.1 b.2.2.2.2.2.2.2.2.2.1 b.2.2.2.2.2.2.2.2.2.2.1.1 b.2.2.2.2.2.2.2.2.2.2.2.1 b.2.2.2.2.2.2.2.2.2.2.2.2.1 b.2.2.2.2.2.2.2.2.2.2.2.2.2.1.1 b.2.2.2.2.2.2.2.2.2.2.2.2.2.1.2.1 kn kr) (fun a b=>hl_k22_2 F_k30 F_k49 F_k39 a.1 a.2.1 a.2.2.1 a.2.2.2.1 b.1.1 b.1.2.1 b.1.2.2.1 b.2.1.1 b.2.1.2.1 b.2.1.2.2.1 b.2.2.2.1 b.2.2.2.2.1 b.2.2.2.2.2.1 b.2.2.2.2.2.2.1 b.2.2.2.2.2.2.2.1 b.2.2.2.2.2.2.2.2.1 b.2.2.2.2.2.2.2.2.2.1 b.2.2.2.2.2.2.2.2.2.2.1.1 b.2.2.2.2.2.2.2.2.2.2.2.1 b.2.2.2.2.2.2.2.2.2.2.2.2.1 b.2.2.2.2.2.2.2.2.2.2.2.2.2.1.1 b.2.2.2.2.2.2.2.2.2.2.2.2.2.1.2.1 _ _) (fun a b kn kr=>nl_k22_2 F_k30 a.1 a.2.1 a.2.2.1 a.2.2.2.1 b.1.1 b.1.2.1 b.1.2.2.1 b.2.1.1 b.2.1.2.1 b.2.1.2.2.1 b.2.2.2.1 b.2.2.2.2.1 b.2.2.2.2.2.1 b.2.2.2.2.2.2.1 b.2.2.2.2.2.2.2.1 b.2.2.2.2.2.2.2.2.1 b.2.2.2.2.2.2.2.2.2.1 b.2.2.2.2.2.2.2.2.2.2.1.1 b.2.2.2.2.2.2.2.2.2.2.2.1 b.2.2.2.2.2.2.2.2.2.2.2.2.1 b.2.2.2.2.2.2.2.2.2.2.2.2.2.1.1 b.2.2.2.2.2.2.2.2.2.2.2.2.2.1.2.1 kn kr)
theorem h_k22 (F_k30:B_k30) (F_k49:B_k49) (F_k39:B_k39) (L_k22_2:LT_k22_2→LM_k22_2→Option LO_k22_2) x1 x2 x3 x4 x5 x6 x7 x8 x9 x10 x11 x12 x13 x14 x15 x16 x17 x18 x19 {α:Type} (K:SV→Mem→Option α):callBody (table [(26,⟨args_k30,mem_k30,outs_k30,F_k30⟩),(70,⟨args_k49,mem_k49,outs_k49,F_k49⟩),(24,⟨args_k39,mem_k39,outs_k39,F_k39⟩)] [(2,⟨ltmps_k22_2,lmem_k22_2,louts_k22_2,L_k22_2⟩)]) br_k22 rc_k22 fd_k22 (args_k22.svs (x1,(x2,x3,()),())) (mem_k22.mem ((x4,x5,x6,()),(x7,x8,x9,()),(),x10,x11,x12,x13,x14,x15,x16,(x17,()),x18,x19,())) K = tree_k22 F_k30 F_k49 F_k39 L_k22_2 x1 x2 x3 x4 x5 x6 x7 x8 x9 x10 x11 x12 x13 x14 x15 x16 x17 x18 x19 (fun r=>outsRun outs_k22 r K):=by kernel_rfl
noncomputable def C_k22:Con:=⟨args_k22,mem_k22,outs_k22,F_k22⟩
theorem k_k22:Known Try.prog fd_k22 [(26,C_k30),(70,C_k49),(24,C_k39)] [(2,D_k22_2)]:=known_of mixT (by kernel_rfl) ⟨ok_k30,ok_k49,ok_k39,trivial⟩ ⟨okl_k22_2,trivial⟩
theorem fn_k22:FnOK Try.prog an_k22 69 Try.f69 fd_k22:=fnOK (by kernel_rfl) (by kernel_rfl) (by kernel_rfl)
theorem ok_k22:ConOK Try.prog 69 C_k22:=con_of k_k22 (byRef:=br_k22) fn_k22 rc_k22 args_k22 mem_k22 outs_k22 (fun a b K=>tree_k22 F_k30 F_k49 F_k39 L_k22_2 a.1 a.2.1.1 a.2.1.2.1 b.1.1 b.1.2.1 b.1.2.2.1 b.2.1.1 b.2.1.2.1 b.2.1.2.2.1 b.2.2.2.1 b.2.2.2.2.1 b.2.2.2.2.2.1 b.2.2.2.2.2.2.1 b.2.2.2.2.2.2.2.1 b.2.2.2.2.2.2.2.2.1 b.2.2.2.2.2.2.2.2.2.1 b.2.2.2.2.2.2.2.2.2.2.1.1 b.2.2.2.2.2.2.2.2.2.2.2.1 b.2.2.2.2.2.2.2.2.2.2.2.2.1 K) (fun a b=>h_k22 F_k30 F_k49 F_k39 L_k22_2 _ _ _ _ _ _ _ _ _ _ _ _ _ _ _ _ _ _ _ _) (fun a b K=>n_k22 F_k30 F_k49 F_k39 L_k22_2 _ _ _ _ _ _ _ _ _ _ _ _ _ _ _ _ _ _ _ K)
def an_k14:Nat→LAnn:=fun n=>(find n []).getD ⟨0,[],[],[],[]⟩
noncomputable def fd_k14:FD:=fdOf Try.prog an_k14 Try.f43
def br_k14:FuncId→CC:=fun f=>⟨([62,69,71]:List Nat).contains f,(find f [(62,[0,1,2,3,4,5,6,7,8,9,10,11]),(69,[0,1,2,3,4,5,6,7,8,9,10,11]),(71,[0,1,2,3,4,5,6,7,8,9,10,11])]).getD [],(find f [(71,[(0,9,9,.cons .str .nil)])]).getD []⟩
def rc_k14:RC:=⟨false,[(3,9,9,.cons .str .nil),(12,2,196,.cons (.int .i64) (.cons .str .nil))],[]⟩
theorem h_k14 (F_k19:B_k19) (F_k22:B_k22) (F_k49:B_k49) (F_k51:B_k51) x1 x2 x3 x4 x5 x6 x7 x8 x9 x10 x11 x12 x13 x14 x15 x16 x17 x18 x19 {α:Type} (K:SV→Mem→Option α):callBody (table [(62,⟨args_k19,mem_k19,outs_k19,F_k19⟩),(69,⟨args_k22,mem_k22,outs_k22,F_k22⟩),(70,⟨args_k49,mem_k49,outs_k49,F_k49⟩),(71,⟨args_k51,mem_k51,outs_k51,F_k51⟩)] []) br_k14 rc_k14 fd_k14 (args_k14.svs (x1,(x2,x3,()),())) (mem_k14.mem ((x4,x5,x6,()),(x7,x8,x9,()),(),x10,x11,x12,x13,x14,x15,x16,(x17,()),x18,x19,())) K = tree_k14 F_k19 F_k22 F_k49 F_k51 x1 x2 x3 x4 x5 x6 x7 x8 x9 x10 x11 x12 x13 x14 x15 x16 x17 x18 x19 (fun r=>outsRun outs_k14 r K):=by kernel_rfl
noncomputable def C_k14:Con:=⟨args_k14,mem_k14,outs_k14,F_k14⟩
theorem k_k14:Known Try.prog fd_k14 [(62,C_k19),(69,C_k22),(70,C_k49),(71,C_k51)] []:=known_of mixT (by kernel_rfl) ⟨ok_k19,ok_k22,ok_k49,ok_k51,trivial⟩ trivial
theorem fn_k14:FnOK Try.prog an_k14 43 Try.f43 fd_k14:=fnOK (by kernel_rfl) (by kernel_rfl) (by kernel_rfl)
theorem ok_k14:ConOK Try.prog 43 C_k14:=con_of k_k14 (byRef:=br_k14) fn_k14 rc_k14 args_k14 mem_k14 outs_k14 (fun a b K=>tree_k14 F_k19 F_k22 F_k49 F_k51 a.1 a.2.1.1 a.2.1.2.1 b.1.1 b.1.2.1 b.1.2.2.1 b.2.1.1 b.2.1.2.1 b.2.1.2.2.1 b.2.2.2.1 b.2.2.2.2.1 b.2.2.2.2.2.1 b.2.2.2.2.2.2.1 b.2.2.2.2.2.2.2.1 b.2.2.2.2.2.2.2.2.1 b.2.2.2.2.2.2.2.2.2.1 b.2.2.2.2.2.2.2.2.2.2.1.1 b.2.2.2.2.2.2.2.2.2.2.2.1 b.2.2.2.2.2.2.2.2.2.2.2.2.1 K) (fun a b=>h_k14 F_k19 F_k22 F_k49 F_k51 _ _ _ _ _ _ _ _ _ _ _ _ _ _ _ _ _ _ _ _) (fun a b K=>n_k14 F_k19 F_k22 F_k49 F_k51 _ _ _ _ _ _ _ _ _ _ _ _ _ _ _ _ _ _ _ K)
def an_k18:Nat→LAnn:=fun n=>(find n []).getD ⟨0,[],[],[],[]⟩
noncomputable def fd_k18:FD:=fdOf Try.prog an_k18 Try.f64
def br_k18:FuncId→CC:=fun f=>⟨([66]:List Nat).contains f,(find f [(66,[0,1,2,3,4,5,6,7,8,9,10,11])]).getD [],(find f [(66,[(0,9,9,.cons .str .nil)])]).getD []⟩
def rc_k18:RC:=⟨false,[(6,9,9,.cons .str .nil)],[(6,9,13)]⟩
theorem h_k18 (F_k48:B_k48) (F_k50:B_k50) x1 x2 x3 x4 x5 x6 x7 x8 x9 x10 x11 x12 x13 x14 x15 x16 x17 x18 x19 x20 {α:Type} (K:SV→Mem→Option α):callBody (table [(66,⟨args_k48,mem_k48,outs_k48,F_k48⟩),(65,⟨args_k50,mem_k50,outs_k50,F_k50⟩)] []) br_k18 rc_k18 fd_k18 (args_k18.svs (x1,())) (mem_k18.mem ((),(x2,()),(x3,()),(x4,()),(x5,x6,x7,()),(x8,x9,x10,()),(),x11,x12,x13,x14,x15,x16,x17,(x18,()),x19,x20,())) K = tree_k18 F_k48 F_k50 x1 x2 x3 x4 x5 x6 x7 x8 x9 x10 x11 x12 x13 x14 x15 x16 x17 x18 x19 x20 (fun r=>outsRun outs_k18 r K):=by kernel_rfl
noncomputable def C_k18:Con:=⟨args_k18,mem_k18,outs_k18,F_k18⟩
theorem k_k18:Known Try.prog fd_k18 [(66,C_k48),(65,C_k50)] []:=known_of mixT (by kernel_rfl) ⟨ok_k48,ok_k50,trivial⟩ trivial
theorem fn_k18:FnOK Try.prog an_k18 64 Try.f64 fd_k18:=fnOK (by kernel_rfl) (by kernel_rfl) (by kernel_rfl)
theorem ok_k18:ConOK Try.prog 64 C_k18:=con_of k_k18 (byRef:=br_k18) fn_k18 rc_k18 args_k18 mem_k18 outs_k18 (fun a b K=>tree_k18 F_k48 F_k50 a.1 b.2.1.1 b.2.2.1.1 b.2.2.2.1.1 b.2.2.2.2.1.1 b.2.2.2.2.1.2.1 b.2.2.2.2.1.2.2.1 b.2.2.2.2.2.1.1 b.2.2.2.2.2.1.2.1 b.2.2.2.2.2.1.2.2.1 b.2.2.2.2.2.2.2.1 b.2.2.2.2.2.2.2.2.1 b.2.2.2.2.2.2.2.2.2.1 b.2.2.2.2.2.2.2.2.2.2.1 b.2.2.2.2.2.2.2.2.2.2.2.1 b.2.2.2.2.2.2.2.2.2.2.2.2.1 b.2.2.2.2.2.2.2.2.2.2.2.2.2.1 b.2.2.2.2.2.2.2.2.2.2.2.2.2.2.1.1 b.2.2.2.2.2.2.2.2.2.2.2.2.2.2.2.1 b.2.2.2.2.2.2.2.2.2.2.2.2.2.2.2.2.1 K) (fun a b=>h_k18 F_k48 F_k50 _ _ _ _ _ _ _ _ _ _ _ _ _ _ _ _ _ _ _ _ _) (fun a b K=>n_k18 F_k48 F_k50 _ _ _ _ _ _ _ _ _ _ _ _ _ _ _ _ _ _ _ _ K)
def an_k16:Nat→LAnn:=fun n=>(find n []).getD ⟨0,[],[],[],[]⟩
noncomputable def fd_k16:FD:=fdOf Try.prog an_k16 Try.f77
def br_k16:FuncId→CC:=fun f=>⟨([]:List Nat).contains f,(find f []).getD [],(find f []).getD []⟩
def rc_k16:RC:=⟨true,[],[]⟩
theorem h_k16 x1 {α:Type} (K:SV→Mem→Option α):callBody (table [] []) br_k16 rc_k16 fd_k16 (args_k16.svs (x1,())) (mem_k16.mem ()) K = tree_k16 x1 (fun r=>outsRun outs_k16 r K):=by kernel_rfl
noncomputable def C_k16:Con:=⟨args_k16,mem_k16,outs_k16,F_k16⟩
theorem k_k16:Known Try.prog fd_k16 [] []:=known_of mixT (by kernel_rfl) trivial trivial
theorem fn_k16:FnOK Try.prog an_k16 77 Try.f77 fd_k16:=fnOK (by kernel_rfl) (by kernel_rfl) (by kernel_rfl)
theorem ok_k16:ConOK Try.prog 77 C_k16:=con_of k_k16 (byRef:=br_k16) fn_k16 rc_k16 args_k16 mem_k16 outs_k16 (fun a b K=>tree_k16 a.1 K) (fun a b=>h_k16 _ _) (fun a b K=>n_k16 _ K)
def an_k20:Nat→LAnn:=fun n=>(find n []).getD ⟨0,[],[],[],[]⟩
noncomputable def fd_k20:FD:=fdOf Try.prog an_k20 Try.f63
def br_k20:FuncId→CC:=fun f=>⟨([24,62,64,69,85]:List Nat).contains f,(find f [(24,[0,1,2,3,4,5,6,7,8,9,10,11]),(62,[0,1,2,3,4,5,6,7,8,9,10,11]),(64,[0,1,2,3,4,5,6,7,8,9,10,11]),(69,[0,1,2,3,4,5,6,7,8,9,10,11]),(85,[0,1,2,3,4,5,6,7,8,9,10,11])]).getD [],(find f [(24,[(0,9,9,.cons .str .nil)])]).getD []⟩
def rc_k20:RC:=⟨false,[(7,9,9,.cons .str .nil),(16,2,196,.cons (.int .i64) (.cons .str .nil))],[(7,9,13),(16,2,16)]⟩
theorem h_k20 (F_k19:B_k19) (F_k22:B_k22) (F_k39:B_k39) (F_k64:B_k64) (F_k18:B_k18) x1 x2 x3 x4 x5 x6 x7 x8 x9 x10 x11 x12 x13 x14 x15 x16 x17 x18 x19 x20 x21 x22 {α:Type} (K:SV→Mem→Option α):callBody (table [(62,⟨args_k19,mem_k19,outs_k19,F_k19⟩),(69,⟨args_k22,mem_k22,outs_k22,F_k22⟩),(24,⟨args_k39,mem_k39,outs_k39,F_k39⟩),(85,⟨args_k64,mem_k64,outs_k64,F_k64⟩),(64,⟨args_k18,mem_k18,outs_k18,F_k18⟩)] []) br_k20 rc_k20 fd_k20 (args_k20.svs (x1,(x2,x3,()),(),())) (mem_k20.mem ((x4,x5,x6,()),(),(x7,()),(x8,()),(x9,()),(x10,x11,x12,()),(),x13,x14,x15,x16,x17,x18,x19,(x20,()),x21,x22,())) K = tree_k20 F_k19 F_k22 F_k39 F_k64 F_k18 x1 x2 x3 x4 x5 x6 x7 x8 x9 x10 x11 x12 x13 x14 x15 x16 x17 x18 x19 x20 x21 x22 (fun r=>outsRun outs_k20 r K):=by kernel_rfl
noncomputable def C_k20:Con:=⟨args_k20,mem_k20,outs_k20,F_k20⟩
theorem k_k20:Known Try.prog fd_k20 [(62,C_k19),(69,C_k22),(24,C_k39),(85,C_k64),(64,C_k18)] []:=known_of mixT (by kernel_rfl) ⟨ok_k19,ok_k22,ok_k39,ok_k64,ok_k18,trivial⟩ trivial
theorem fn_k20:FnOK Try.prog an_k20 63 Try.f63 fd_k20:=fnOK (by kernel_rfl) (by kernel_rfl) (by kernel_rfl)
theorem ok_k20:ConOK Try.prog 63 C_k20:=con_of k_k20 (byRef:=br_k20) fn_k20 rc_k20 args_k20 mem_k20 outs_k20 (fun a b K=>tree_k20 F_k19 F_k22 F_k39 F_k64 F_k18 a.1 a.2.1.1 a.2.1.2.1 b.1.1 b.1.2.1 b.1.2.2.1 b.2.2.1.1 b.2.2.2.1.1 b.2.2.2.2.1.1 b.2.2.2.2.2.1.1 b.2.2.2.2.2.1.2.1 b.2.2.2.2.2.1.2.2.1 b.2.2.2.2.2.2.2.1 b.2.2.2.2.2.2.2.2.1 b.2.2.2.2.2.2.2.2.2.1 b.2.2.2.2.2.2.2.2.2.2.1 b.2.2.2.2.2.2.2.2.2.2.2.1 b.2.2.2.2.2.2.2.2.2.2.2.2.1 b.2.2.2.2.2.2.2.2.2.2.2.2.2.1 b.2.2.2.2.2.2.2.2.2.2.2.2.2.2.1.1 b.2.2.2.2.2.2.2.2.2.2.2.2.2.2.2.1 b.2.2.2.2.2.2.2.2.2.2.2.2.2.2.2.2.1 K) (fun a b=>h_k20 F_k19 F_k22 F_k39 F_k64 F_k18 _ _ _ _ _ _ _ _ _ _ _ _ _ _ _ _ _ _ _ _ _ _ _) (fun a b K=>n_k20 F_k19 F_k22 F_k39 F_k64 F_k18 _ _ _ _ _ _ _ _ _ _ _ _ _ _ _ _ _ _ _ _ _ _ K)
def an_k21:Nat→LAnn:=fun n=>(find n []).getD ⟨0,[],[],[],[]⟩
noncomputable def fd_k21:FD:=fdOf Try.prog an_k21 Try.f63
def br_k21:FuncId→CC:=fun f=>⟨([24,62,69,85]:List Nat).contains f,(find f [(24,[0,1,2,3,4,5,6,7,8,9,10,11]),(62,[0,1,2,3,4,5,6,7,8,9,10,11]),(69,[0,1,2,3,4,5,6,7,8,9,10,11]),(85,[0,1,2,3,4,5,6,7,8,9,10,11])]).getD [],(find f [(24,[(0,9,9,.cons .str .nil)])]).getD []⟩
def rc_k21:RC:=⟨false,[(3,9,9,.cons .str .nil),(12,2,196,.cons (.int .i64) (.cons .str .nil))],[(3,9,9),(12,2,12)]⟩
theorem h_k21 (F_k19:B_k19) (F_k22:B_k22) (F_k39:B_k39) (F_k64:B_k64) (F_k16:B_k16) x1 x2 x3 x4 x5 x6 x7 x8 x9 x10 x11 x12 x13 x14 x15 x16 x17 x18 x19 {α:Type} (K:SV→Mem→Option α):callBody (table [(62,⟨args_k19,mem_k19,outs_k19,F_k19⟩),(69,⟨args_k22,mem_k22,outs_k22,F_k22⟩),(24,⟨args_k39,mem_k39,outs_k39,F_k39⟩),(85,⟨args_k64,mem_k64,outs_k64,F_k64⟩),(77,⟨args_k16,mem_k16,outs_k16,F_k16⟩)] []) br_k21 rc_k21 fd_k21 (args_k21.svs (x1,(x2,x3,()),())) (mem_k21.mem ((x4,x5,x6,()),(x7,x8,x9,()),(),x10,x11,x12,x13,x14,x15,x16,(x17,()),x18,x19,())) K = tree_k21 F_k19 F_k22 F_k39 F_k64 F_k16 x1 x2 x3 x4 x5 x6 x7 x8 x9 x10 x11 x12 x13 x14 x15 x16 x17 x18 x19 (fun r=>outsRun outs_k21 r K):=by kernel_rfl
noncomputable def C_k21:Con:=⟨args_k21,mem_k21,outs_k21,F_k21⟩
theorem k_k21:Known Try.prog fd_k21 [(62,C_k19),(69,C_k22),(24,C_k39),(85,C_k64),(77,C_k16)] []:=known_of mixT (by kernel_rfl) ⟨ok_k19,ok_k22,ok_k39,ok_k64,ok_k16,trivial⟩ trivial
theorem fn_k21:FnOK Try.prog an_k21 63 Try.f63 fd_k21:=fnOK (by kernel_rfl) (by kernel_rfl) (by kernel_rfl)
theorem ok_k21:ConOK Try.prog 63 C_k21:=con_of k_k21 (byRef:=br_k21) fn_k21 rc_k21 args_k21 mem_k21 outs_k21 (fun a b K=>tree_k21 F_k19 F_k22 F_k39 F_k64 F_k16 a.1 a.2.1.1 a.2.1.2.1 b.1.1 b.1.2.1 b.1.2.2.1 b.2.1.1 b.2.1.2.1 b.2.1.2.2.1 b.2.2.2.1 b.2.2.2.2.1 b.2.2.2.2.2.1 b.2.2.2.2.2.2.1 b.2.2.2.2.2.2.2.1 b.2.2.2.2.2.2.2.2.1 b.2.2.2.2.2.2.2.2.2.1 b.2.2.2.2.2.2.2.2.2.2.1.1 b.2.2.2.2.2.2.2.2.2.2.2.1 b.2.2.2.2.2.2.2.2.2.2.2.2.1 K) (fun a b=>h_k21 F_k19 F_k22 F_k39 F_k64 F_k16 _ _ _ _ _ _ _ _ _ _ _ _ _ _ _ _ _ _ _ _) (fun a b K=>n_k21 F_k19 F_k22 F_k39 F_k64 F_k16 _ _ _ _ _ _ _ _ _ _ _ _ _ _ _ _ _ _ _ K)
def an_k17:Nat→LAnn:=fun n=>(find n []).getD ⟨0,[],[],[],[]⟩
noncomputable def fd_k17:FD:=fdOf Try.prog an_k17 Try.f39
def br_k17:FuncId→CC:=fun f=>⟨([62,63]:List Nat).contains f,(find f [(62,[0,1,2,3,4,5,6,7,8,9,10,11]),(63,[0,1,2,3,4,5,6,7,8,9,10,11])]).getD [],(find f []).getD []⟩
def rc_k17:RC:=⟨false,[(3,9,9,.cons .str .nil),(12,2,196,.cons (.int .i64) (.cons .str .nil))],[(3,9,9),(12,2,12)]⟩
theorem h_k17 (F_k19:B_k19) (F_k20:B_k20) (F_k21:B_k21) x1 x2 x3 x4 x5 x6 x7 x8 x9 x10 x11 x12 x13 x14 x15 x16 x17 x18 x19 x20 x21 {α:Type} (K:SV→Mem→Option α):callBody (table [(62,⟨args_k19,mem_k19,outs_k19,F_k19⟩),(63,⟨args_k20,mem_k20,outs_k20,F_k20⟩),(63,⟨args_k21,mem_k21,outs_k21,F_k21⟩)] []) br_k17 rc_k17 fd_k17 (args_k17.svs (x1,x2,x3,(x4,x5,()),())) (mem_k17.mem ((x6,x7,x8,()),(x9,x10,x11,()),(),x12,x13,x14,x15,x16,x17,x18,(x19,()),x20,x21,())) K = tree_k17 F_k19 F_k20 x1 x2 x3 x4 x5 x6 x7 x8 x9 x10 x11 x12 x13 x14 x15 x16 x17 x18 x19 x20 x21 (fun r=>outsRun outs_k17 r K):=by kernel_rfl
noncomputable def C_k17:Con:=⟨args_k17,mem_k17,outs_k17,F_k17⟩
theorem k_k17:Known Try.prog fd_k17 [(62,C_k19),(63,C_k20),(63,C_k21)] []:=known_of mixT (by kernel_rfl) ⟨ok_k19,ok_k20,ok_k21,trivial⟩ trivial
theorem fn_k17:FnOK Try.prog an_k17 39 Try.f39 fd_k17:=fnOK (by kernel_rfl) (by kernel_rfl) (by kernel_rfl)
theorem ok_k17:ConOK Try.prog 39 C_k17:=con_of k_k17 (byRef:=br_k17) fn_k17 rc_k17 args_k17 mem_k17 outs_k17 (fun a b K=>tree_k17 F_k19 F_k20 a.1 a.2.1 a.2.2.1 a.2.2.2.1.1 a.2.2.2.1.2.1 b.1.1 b.1.2.1 b.1.2.2.1 b.2.1.1 b.2.1.2.1 b.2.1.2.2.1 b.2.2.2.1 b.2.2.2.2.1 b.2.2.2.2.2.1 b.2.2.2.2.2.2.1 b.2.2.2.2.2.2.2.1 b.2.2.2.2.2.2.2.2.1 b.2.2.2.2.2.2.2.2.2.1 b.2.2.2.2.2.2.2.2.2.2.1.1 b.2.2.2.2.2.2.2.2.2.2.2.1 b.2.2.2.2.2.2.2.2.2.2.2.2.1 K) (fun a b=>h_k17 F_k19 F_k20 F_k21 _ _ _ _ _ _ _ _ _ _ _ _ _ _ _ _ _ _ _ _ _ _) (fun a b K=>n_k17 F_k19 F_k20 _ _ _ _ _ _ _ _ _ _ _ _ _ _ _ _ _ _ _ _ _ K)
def an_k13:Nat→LAnn:=fun n=>(find n []).getD ⟨0,[],[],[],[]⟩
noncomputable def fd_k13:FD:=fdOf Try.prog an_k13 Try.f61
def br_k13:FuncId→CC:=fun f=>⟨([15,84]:List Nat).contains f,(find f [(15,[0,1,2,3,4,5,6,7,8,9,10,11]),(84,[0,1,2,3,4,5,6,7,8,9,10,11])]).getD [],(find f [(15,[(0,9,9,.cons .str .nil)])]).getD []⟩
def rc_k13:RC:=⟨false,[(2,9,9,.cons .str .nil),(11,2,196,.cons (.int .i64) (.cons .str .nil))],[(11,2,12)]⟩
theorem h_k13 (F_k38:B_k38) (F_k65:B_k65) x1 x2 x3 x4 x5 x6 x7 x8 x9 x10 x11 x12 x13 x14 x15 x16 {α:Type} (K:SV→Mem→Option α):callBody (table [(15,⟨args_k38,mem_k38,outs_k38,F_k38⟩),(84,⟨args_k65,mem_k65,outs_k65,F_k65⟩)] []) br_k13 rc_k13 fd_k13 (args_k13.svs ()) (mem_k13.mem ((x1,x2,x3,()),(x4,x5,x6,()),(),x7,x8,x9,x10,x11,x12,x13,(x14,()),x15,x16,())) K = tree_k13 F_k38 F_k65 x1 x2 x3 x4 x5 x6 x7 x8 x9 x10 x11 x12 x13 x14 x15 x16 (fun r=>outsRun outs_k13 r K):=by kernel_rfl
noncomputable def C_k13:Con:=⟨args_k13,mem_k13,outs_k13,F_k13⟩
theorem k_k13:Known Try.prog fd_k13 [(15,C_k38),(84,C_k65)] []:=known_of mixT (by kernel_rfl) ⟨ok_k38,ok_k65,trivial⟩ trivial
theorem fn_k13:FnOK Try.prog an_k13 61 Try.f61 fd_k13:=fnOK (by kernel_rfl) (by kernel_rfl) (by kernel_rfl)
theorem ok_k13:ConOK Try.prog 61 C_k13:=con_of k_k13 (byRef:=br_k13) fn_k13 rc_k13 args_k13 mem_k13 outs_k13 (fun a b K=>tree_k13 F_k38 F_k65 b.1.1 b.1.2.1 b.1.2.2.1 b.2.1.1 b.2.1.2.1 b.2.1.2.2.1 b.2.2.2.1 b.2.2.2.2.1 b.2.2.2.2.2.1 b.2.2.2.2.2.2.1 b.2.2.2.2.2.2.2.1 b.2.2.2.2.2.2.2.2.1 b.2.2.2.2.2.2.2.2.2.1 b.2.2.2.2.2.2.2.2.2.2.1.1 b.2.2.2.2.2.2.2.2.2.2.2.1 b.2.2.2.2.2.2.2.2.2.2.2.2.1 K) (fun a b=>h_k13 F_k38 F_k65 _ _ _ _ _ _ _ _ _ _ _ _ _ _ _ _ _) (fun a b K=>n_k13 F_k38 F_k65 _ _ _ _ _ _ _ _ _ _ _ _ _ _ _ _ K)
def an_k15:Nat→LAnn:=fun n=>(find n []).getD ⟨0,[],[],[],[]⟩
noncomputable def fd_k15:FD:=fdOf Try.prog an_k15 Try.f44
def br_k15:FuncId→CC:=fun f=>⟨([67,68,69]:List Nat).contains f,(find f [(67,[0,1,2,3,4,5,6,7,8,9,10,11]),(68,[0,1,2,3,4,5,6,7,8,9,10,11]),(69,[0,1,2,3,4,5,6,7,8,9,10,11])]).getD [],(find f []).getD []⟩
def rc_k15:RC:=⟨false,[(3,9,9,.cons .str .nil),(12,2,196,.cons (.int .i64) (.cons .str .nil))],[(12,2,12)]⟩
theorem h_k15 (F_k23:B_k23) (F_k22:B_k22) (F_k24:B_k24) x1 x2 x3 x4 x5 x6 x7 x8 x9 x10 x11 x12 x13 x14 x15 x16 x17 x18 {α:Type} (K:SV→Mem→Option α):callBody (table [(67,⟨args_k23,mem_k23,outs_k23,F_k23⟩),(69,⟨args_k22,mem_k22,outs_k22,F_k22⟩),(68,⟨args_k24,mem_k24,outs_k24,F_k24⟩)] []) br_k15 rc_k15 fd_k15 (args_k15.svs ((x1,x2,()),())) (mem_k15.mem ((x3,x4,x5,()),(x6,x7,x8,()),(),x9,x10,x11,x12,x13,x14,x15,(x16,()),x17,x18,())) K = tree_k15 F_k23 F_k22 F_k24 x1 x2 x3 x4 x5 x6 x7 x8 x9 x10 x11 x12 x13 x14 x15 x16 x17 x18 (fun r=>outsRun outs_k15 r K):=by kernel_rfl
noncomputable def C_k15:Con:=⟨args_k15,mem_k15,outs_k15,F_k15⟩
theorem k_k15:Known Try.prog fd_k15 [(67,C_k23),(69,C_k22),(68,C_k24)] []:=known_of mixT (by kernel_rfl) ⟨ok_k23,ok_k22,ok_k24,trivial⟩ trivial
theorem fn_k15:FnOK Try.prog an_k15 44 Try.f44 fd_k15:=fnOK (by kernel_rfl) (by kernel_rfl) (by kernel_rfl)
theorem ok_k15:ConOK Try.prog 44 C_k15:=con_of k_k15 (byRef:=br_k15) fn_k15 rc_k15 args_k15 mem_k15 outs_k15 (fun a b K=>tree_k15 F_k23 F_k22 F_k24 a.1.1 a.1.2.1 b.1.1 b.1.2.1 b.1.2.2.1 b.2.1.1 b.2.1.2.1 b.2.1.2.2.1 b.2.2.2.1 b.2.2.2.2.1 b.2.2.2.2.2.1 b.2.2.2.2.2.2.1 b.2.2.2.2.2.2.2.1 b.2.2.2.2.2.2.2.2.1 b.2.2.2.2.2.2.2.2.2.1 b.2.2.2.2.2.2.2.2.2.2.1.1 b.2.2.2.2.2.2.2.2.2.2.2.1 b.2.2.2.2.2.2.2.2.2.2.2.2.1 K) (fun a b=>h_k15 F_k23 F_k22 F_k24 _ _ _ _ _ _ _ _ _ _ _ _ _ _ _ _ _ _ _) (fun a b K=>n_k15 F_k23 F_k22 F_k24 _ _ _ _ _ _ _ _ _ _ _ _ _ _ _ _ _ _ K)
end Go.Proofs.Ytljfdfghagiblaa.S2
