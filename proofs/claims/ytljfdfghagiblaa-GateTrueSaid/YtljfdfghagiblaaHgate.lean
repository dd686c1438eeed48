/- The program's functions come to their plain forms,by program. -/
import Derived.Test.YtljfdfghagiblaaGgate
import Derived.Test.YtljfdfghagiblaaHseal
import Derived.Test.YtljfdfghagiblaaHmerkle
import Derived.Test.YtljfdfghagiblaaHstore
set_option maxRecDepth 100000
set_option maxHeartbeats 0
set_option linter.unusedVariables false
set_option linter.unusedSimpArgs false
namespace Go.Proofs.Ytljfdfghagiblaa.S2
open Go
def an_k27:Nat→LAnn:=fun n=>(find n []).getD ⟨0,[],[],[],[]⟩
noncomputable def fd_k27:FD:=fdOf Try.prog an_k27 Try.f60
def br_k27:FuncId→CC:=fun f=>⟨([]:List Nat).contains f,(find f []).getD [],(find f []).getD []⟩
def rc_k27:RC:=⟨false,[],[]⟩
theorem h_k27 x1 x2 x3 x4 x5 x6 x7 x8 x9 x10 x11 x12 x13 x14 x15 x16 {α:Type} (K:SV→Mem→Option α):callBody (table [] []) br_k27 rc_k27 fd_k27 (args_k27.svs (x1,x2,x3,())) (mem_k27.mem ((x4,x5,x6,()),(),x7,x8,x9,x10,x11,x12,x13,(x14,()),x15,x16,())) K = tree_k27 x1 x2 x3 x4 x5 x6 x7 x8 x9 x10 x11 x12 x13 x14 x15 x16 (fun r=>outsRun outs_k27 r K):=by kernel_rfl
noncomputable def C_k27:Con:=⟨args_k27,mem_k27,outs_k27,F_k27⟩
theorem k_k27:Known Try.prog fd_k27 [] []:=known_of mixT (by kernel_rfl) trivial trivial
theorem fn_k27:FnOK Try.prog an_k27 60 Try.f60 fd_k27:=fnOK (by kernel_rfl) (by kernel_rfl) (by kernel_rfl)
theorem ok_k27:ConOK Try.prog 60 C_k27:=con_of k_k27 (byRef:=br_k27) fn_k27 rc_k27 args_k27 mem_k27 outs_k27 (fun a b K=>tree_k27 a.1 a.2.1 a.2.2.1 b.1.1 b.1.2.1 b.1.2.2.1 b.2.2.1 b.2.2.2.1 b.2.2.2.2.1 b.2.2.2.2.2.1 b.2.2.2.2.2.2.1 b.2.2.2.2.2.2.2.1 b.2.2.2.2.2.2.2.2.1 b.2.2.2.2.2.2.2.2.2.1.1 b.2.2.2.2.2.2.2.2.2.2.1 b.2.2.2.2.2.2.2.2.2.2.2.1 K) (fun a b=>h_k27 _ _ _ _ _ _ _ _ _ _ _ _ _ _ _ _ _) (fun a b K=>n_k27 _ _ _ _ _ _ _ _ _ _ _ _ _ _ _ _ K)
def an_k21:Nat→LAnn:=fun n=>(find n []).getD ⟨0,[],[],[],[]⟩
noncomputable def fd_k21:FD:=fdOf Try.prog an_k21 Try.f62
def br_k21:FuncId→CC:=fun f=>⟨([46]:List Nat).contains f,(find f [(46,[0,1,2,3,4,5,6,7,8,9,10,11])]).getD [],(find f []).getD []⟩
def rc_k21:RC:=⟨true,[(3,9,9,.cons .str .nil),(12,2,196,.cons (.int .i64) (.cons .str .nil))],[]⟩
theorem h_k21 (F_k72:B_k72) x1 x2 x3 x4 x5 x6 x7 x8 x9 x10 x11 x12 x13 x14 x15 x16 x17 {α:Type} (K:SV→Mem→Option α):callBody (table [(46,⟨args_k72,mem_k72,outs_k72,F_k72⟩)] []) br_k21 rc_k21 fd_k21 (args_k21.svs (x1,())) (mem_k21.mem ((x2,x3,x4,()),(x5,x6,x7,()),(),x8,x9,x10,x11,x12,x13,x14,(x15,()),x16,x17,())) K = tree_k21 F_k72 x1 x2 x3 x4 x5 x6 x7 x8 x9 x10 x11 x12 x13 x14 x15 x16 x17 (fun r=>outsRun routs_k21 r K):=by kernel_rfl
noncomputable def C_k21:Con:=⟨args_k21,mem_k21,outs_k21,F_k21⟩
theorem k_k21:Known Try.prog fd_k21 [(46,C_k72)] []:=known_of mixT (by kernel_rfl) ⟨ok_k72,trivial⟩ trivial
theorem fn_k21:FnOK Try.prog an_k21 62 Try.f62 fd_k21:=fnOK (by kernel_rfl) (by kernel_rfl) (by kernel_rfl)
noncomputable def CR_k21:Con:=⟨args_k21,mem_k21,routs_k21,R_k21⟩
theorem okr_k21:ConOK Try.prog 62 CR_k21:=con_of k_k21 (byRef:=br_k21) fn_k21 rc_k21 args_k21 mem_k21 routs_k21 (fun a b K=>tree_k21 F_k72 a.1 b.1.1 b.1.2.1 b.1.2.2.1 b.2.1.1 b.2.1.2.1 b.2.1.2.2.1 b.2.2.2.1 b.2.2.2.2.1 b.2.2.2.2.2.1 b.2.2.2.2.2.2.1 b.2.2.2.2.2.2.2.1 b.2.2.2.2.2.2.2.2.1 b.2.2.2.2.2.2.2.2.2.1 b.2.2.2.2.2.2.2.2.2.2.1.1 b.2.2.2.2.2.2.2.2.2.2.2.1 b.2.2.2.2.2.2.2.2.2.2.2.2.1 K) (fun a b=>h_k21 F_k72 _ _ _ _ _ _ _ _ _ _ _ _ _ _ _ _ _ _) (fun a b K=>n_k21 F_k72 _ _ _ _ _ _ _ _ _ _ _ _ _ _ _ _ _ K)
theorem ok_k21:ConOK Try.prog 62 C_k21:=con_reads okr_k21 (by rfl) reads_k21
def an_k25:Nat→LAnn:=fun n=>(find n []).getD ⟨0,[],[],[],[]⟩
noncomputable def fd_k25:FD:=fdOf Try.prog an_k25 Try.f67
def br_k25:FuncId→CC:=fun f=>⟨([46]:List Nat).contains f,(find f [(46,[0,1,2,3,4,5,6,7,8,9,10,11])]).getD [],(find f []).getD []⟩
def rc_k25:RC:=⟨true,[(3,9,9,.cons .str .nil),(12,2,196,.cons (.int .i64) (.cons .str .nil))],[]⟩
theorem h_k25 (F_k72:B_k72) x1 x2 x3 x4 x5 x6 x7 x8 x9 x10 x11 x12 x13 x14 x15 x16 {α:Type} (K:SV→Mem→Option α):callBody (table [(46,⟨args_k72,mem_k72,outs_k72,F_k72⟩)] []) br_k25 rc_k25 fd_k25 (args_k25.svs ()) (mem_k25.mem ((x1,x2,x3,()),(x4,x5,x6,()),(),x7,x8,x9,x10,x11,x12,x13,(x14,()),x15,x16,())) K = tree_k25 F_k72 x1 x2 x3 x4 x5 x6 x7 x8 x9 x10 x11 x12 x13 x14 x15 x16 (fun r=>outsRun routs_k25 r K):=by kernel_rfl
noncomputable def C_k25:Con:=⟨args_k25,mem_k25,outs_k25,F_k25⟩
theorem k_k25:Known Try.prog fd_k25 [(46,C_k72)] []:=known_of mixT (by kernel_rfl) ⟨ok_k72,trivial⟩ trivial
theorem fn_k25:FnOK Try.prog an_k25 67 Try.f67 fd_k25:=fnOK (by kernel_rfl) (by kernel_rfl) (by kernel_rfl)
noncomputable def CR_k25:Con:=⟨args_k25,mem_k25,routs_k25,R_k25⟩
theorem okr_k25:ConOK Try.prog 67 CR_k25:=con_of k_k25 (byRef:=br_k25) fn_k25 rc_k25 args_k25 mem_k25 routs_k25 (fun a b K=>tree_k25 F_k72 b.1.1 b.1.2.1 b.1.2.2.1 b.2.1.1 b.2.1.2.1 b.2.1.2.2.1 b.2.2.2.1 b.2.2.2.2.1 b.2.2.2.2.2.1 b.2.2.2.2.2.2.1 b.2.2.2.2.2.2.2.1 b.2.2.2.2.2.2.2.2.1 b.2.2.2.2.2.2.2.2.2.1 b.2.2.2.2.2.2.2.2.2.2.1.1 b.2.2.2.2.2.2.2.2.2.2.2.1 b.2.2.2.2.2.2.2.2.2.2.2.2.1 K) (fun a b=>h_k25 F_k72 _ _ _ _ _ _ _ _ _ _ _ _ _ _ _ _ _) (fun a b K=>n_k25 F_k72 _ _ _ _ _ _ _ _ _ _ _ _ _ _ _ _ K)
theorem ok_k25:ConOK Try.prog 67 C_k25:=con_reads okr_k25 (by rfl) reads_k25
def an_k26:Nat→LAnn:=fun n=>(find n []).getD ⟨0,[],[],[],[]⟩
noncomputable def fd_k26:FD:=fdOf Try.prog an_k26 Try.f68
def br_k26:FuncId→CC:=fun f=>⟨([89]:List Nat).contains f,(find f [(89,[0,1,2,3,4,5,6,7,8,9,10,11])]).getD [],(find f []).getD []⟩
def rc_k26:RC:=⟨false,[(2,9,9,.cons .str .nil),(11,2,196,.cons (.int .i64) (.cons .str .nil))],[(11,2,12)]⟩
theorem h_k26 (F_k71:B_k71) x1 x2 x3 x4 x5 x6 x7 x8 x9 x10 x11 x12 x13 x14 x15 x16 x17 {α:Type} (K:SV→Mem→Option α):callBody (table [(89,⟨args_k71,mem_k71,outs_k71,F_k71⟩)] []) br_k26 rc_k26 fd_k26 (args_k26.svs (x1,())) (mem_k26.mem ((x2,x3,x4,()),(x5,x6,x7,()),(),x8,x9,x10,x11,x12,x13,x14,(x15,()),x16,x17,())) K = tree_k26 F_k71 x1 x2 x3 x4 x5 x6 x7 x8 x9 x10 x11 x12 x13 x14 x15 x16 x17 (fun r=>outsRun outs_k26 r K):=by kernel_rfl
noncomputable def C_k26:Con:=⟨args_k26,mem_k26,outs_k26,F_k26⟩
theorem k_k26:Known Try.prog fd_k26 [(89,C_k71)] []:=known_of mixT (by kernel_rfl) ⟨ok_k71,trivial⟩ trivial
theorem fn_k26:FnOK Try.prog an_k26 68 Try.f68 fd_k26:=fnOK (by kernel_rfl) (by kernel_rfl) (by kernel_rfl)
theorem ok_k26:ConOK Try.prog 68 C_k26:=con_of k_k26 (byRef:=br_k26) fn_k26 rc_k26 args_k26 mem_k26 outs_k26 (fun a b K=>tree_k26 F_k71 a.1 b.1.1 b.1.2.1 b.1.2.2.1 b.2.1.1 b.2.1.2.1 b.2.1.2.2.1 b.2.2.2.1 b.2.2.2.2.1 b.2.2.2.2.2.1 b.2.2.2.2.2.2.1 b.2.2.2.2.2.2.2.1 b.2.2.2.2.2.2.2.2.1 b.2.2.2.2.2.2.2.2.2.1 b.2.2.2.2.2.2.2.2.2.2.1.1 b.2.2.2.2.2.2.2.2.2.2.2.1 b.2.2.2.2.2.2.2.2.2.2.2.2.1 K) (fun a b=>h_k26 F_k71 _ _ _ _ _ _ _ _ _ _ _ _ _ _ _ _ _ _) (fun a b K=>n_k26 F_k71 _ _ _ _ _ _ _ _ _ _ _ _ _ _ _ _ _ K)
def an_k13:Nat→LAnn:=fun n=>(find n []).getD ⟨0,[],[],[],[]⟩
noncomputable def fd_k13:FD:=fdOf Try.prog an_k13 Try.f41
def br_k13:FuncId→CC:=fun f=>⟨([67,68]:List Nat).contains f,(find f [(67,[0,1,2,3,4,5,6,7,8,9,10,11]),(68,[0,1,2,3,4,5,6,7,8,9,10,11])]).getD [],(find f []).getD []⟩
def rc_k13:RC:=⟨false,[(2,9,9,.cons .str .nil),(11,2,196,.cons (.int .i64) (.cons .str .nil))],[(11,2,12)]⟩
theorem h_k13 (F_k25:B_k25) (F_k26:B_k26) x1 x2 x3 x4 x5 x6 x7 x8 x9 x10 x11 x12 x13 x14 x15 x16 {α:Type} (K:SV→Mem→Option α):callBody (table [(67,⟨args_k25,mem_k25,outs_k25,F_k25⟩),(68,⟨args_k26,mem_k26,outs_k26,F_k26⟩)] []) br_k13 rc_k13 fd_k13 (args_k13.svs ()) (mem_k13.mem ((x1,x2,x3,()),(x4,x5,x6,()),(),x7,x8,x9,x10,x11,x12,x13,(x14,()),x15,x16,())) K = tree_k13 F_k25 F_k26 x1 x2 x3 x4 x5 x6 x7 x8 x9 x10 x11 x12 x13 x14 x15 x16 (fun r=>outsRun outs_k13 r K):=by kernel_rfl
noncomputable def C_k13:Con:=⟨args_k13,mem_k13,outs_k13,F_k13⟩
theorem k_k13:Known Try.prog fd_k13 [(67,C_k25),(68,C_k26)] []:=known_of mixT (by kernel_rfl) ⟨ok_k25,ok_k26,trivial⟩ trivial
theorem fn_k13:FnOK Try.prog an_k13 41 Try.f41 fd_k13:=fnOK (by kernel_rfl) (by kernel_rfl) (by kernel_rfl)
theorem ok_k13:ConOK Try.prog 41 C_k13:=con_of k_k13 (byRef:=br_k13) fn_k13 rc_k13 args_k13 mem_k13 outs_k13 (fun a b K=>tree_k13 F_k25 F_k26 b.1.1 b.1.2.1 b.1.2.2.1 b.2.1.1 b.2.1.2.1 b.2.1.2.2.1 b.2.2.2.1 b.2.2.2.2.1 b.2.2.2.2.2.1 b.2.2.2.2.2.2.1 b.2.2.2.2.2.2.2.1 b.2.2.2.2.2.2.2.2.1 b.2.2.2.2.2.2.2.2.2.1 b.2.2.2.2.2.2.2.2.2.2.1.1 b.2.2.2.2.2.2.2.2.2.2.2.1 b.2.2.2.2.2.2.2.2.2.2.2.2.1 K) (fun a b=>h_k13 F_k25 F_k26 _ _ _ _ _ _ _ _ _ _ _ _ _ _ _ _ _) (fun a b K=>n_k13 F_k25 F_k26 _ _ _ _ _ _ _ _ _ _ _ _ _ _ _ _ K)
def an_k24:Nat→LAnn:=fun n=>(find n [(2,⟨2,[0,1,5,13,14,15],[],[9,15,16,17,18,19,20,21,22,23,24,25],[0,1,5]⟩)]).getD ⟨0,[],[],[],[]⟩
noncomputable def fd_k24:FD:=fdOf Try.prog an_k24 Try.f69
def br_k24:FuncId→CC:=fun f=>⟨([24,26]:List Nat).contains f,(find f [(24,[0,1,2,3,4,5,6,7,8,9,10,11]),(26,[0,1,2,3,4,5,6,7,8,9,10,11])]).getD [],(find f [(24,[(0,9,9,.cons .str .nil)]),(26,[(0,9,9,.cons .str .nil)])]).getD []⟩
def rc_k24:RC:=⟨false,[(3,9,9,.cons .str .nil),(12,2,196,.cons (.int .i64) (.cons .str .nil))],[]⟩
theorem hl_k24_2 (F_k32:B_k32) (F_k54:B_k54) (F_k44:B_k44) (x1:Int) (x2:List Int) (x3:Int) (x4:Int) (x5:Int) (x6:Int) (x7:Int) (x8:List Int) (x9:Int) (x10:Bool) (x11:Y1) (x12:Y1) (x13:Y2) (x14:Y3) (x15:Y4) (x16:Y5) (x17:Yb) (x18:Int) (x19:Yb) (x20:Y6) (x21:ByteArray) (x22:List Int) {α:Type} (kn:St→Option α) (K:Out→St→Option α):round (table [(26,⟨args_k32,mem_k32,outs_k32,F_k32⟩),(70,⟨args_k54,mem_k54,outs_k54,F_k54⟩),(24,⟨args_k44,mem_k44,outs_k44,F_k44⟩)] []) br_k24 (an_k24 2) (fd_k24.loop 2) kn ⟨ltmps_k24_2.svs (x1,x2,x3,x4,()),lmem_k24_2.mem ((x5,x6,x7,()),(x8,x9,x10,()),(),x11,x12,x13,x14,x15,x16,x17,(x18,()),x19,x20,(x21,x22,()),())⟩ K = ltree_k24_2 F_k32 x1 x2 x3 x4 x5 x6 x7 x8 x9 x10 x11 x12 x13 x14 x15 x16 x17 x18 x19 x20 x21 x22 (fun a b=>kn ⟨ltmps_k24_2.svs a,lmem_k24_2.mem b⟩) (fun r=>outLsRun louts_k24_2 r K):=by kernel_rfl
noncomputable def D_k24_2:LCon:=⟨ltmps_k24_2,lmem_k24_2,louts_k24_2,L_k24_2⟩
theorem kl_k24_2:Known Try.prog fd_k24 [(26,C_k32),(70,C_k54),(24,C_k44)] []:=known_of mixT (by kernel_rfl) ⟨ok_k32,ok_k54,ok_k44,trivial⟩ trivial
theorem okl_k24_2:LConOK Try.prog (fd_k24.loop 2) D_k24_2:=lcon_of kl_k24_2 (byRef:=br_k24) (lan:=an_k24 2) (id:=2) (by kernel_rfl) ltmps_k24_2 lmem_k24_2 louts_k24_2 (fun a b kn kr=>ltree_k24_2 F_k32 a.1 a.2.1 a.2.2.1 a.2.2.2.1 b.1.1 b.1.2.1 b.1.2.2.1 b.2.1.1 b.2.1.2.1 b.2.1.2.2.1 b.2.2.2.1 b.2.2.2.2.1 b.2.2.2.2.2.1 b.2.2.2.2.2.2.1 b.2.2.2.2.2.2.2.1 b.2.2.2.2.2.2.2.2.1 b.2.2.2.2.2.2.2.2.2.1 b.2.2.2.2.2.2.2.2.2.2.1.1 b.2.2.2.2.2.2.2.2.2.2.2.1 b.2.2.2.2.2.2.2.2.2.2.2.2.1 b.2.2.2.2.2.2.2.2.2.2.2.2.2.1.1 b.2.2.2.2.2.2.2.2.2.2.2.2.2.1.2.1 kn kr) (fun a b=>hl_k24_2 F_k32 F_k54 F_k44 a.1 a.2.1 a.2.2.1 a.2.2.2.1 b.1.1 b.1.2.1 b.1.2.2.1 b.2.1.1 b.2.1.2.1 b.2.1.2.2.1 b.2.2.2.1 b.2.2.2.2.1 b.2.2.2.2.2.1 b.2.2.2.2.2.2.1 b.2.2.2.2.2.2.2.1 b.2.2.2.2.2.2.2.2.1 b.2.2.2.2.2.2.2.2.2.1 b.2.2.2.2.2.2.2.2.2.2.1.1 b.2.2.2.2.2.2.2.2.2.2.2.1 b.2.2.2.2.2.2.2.2.2.2.2.2.1 b.2.2.2.2.2.2.2.2.2.2.2.2.2.1.1 b.2.2.2.2.2.2.2.2.2.2.2.2.2.1.2.1 _ _) (fun a b kn kr=>nl_k24_2 F_k32 a.1 a.2.1 a.2.2.1 a.2.2.2.1 b.1.1 b.1.2.1 b.1.2.2.1 b.2.1.1 b.2.1.2.1 b.2.1.2.2.1 b.2.2.2.1 b.2.2.2.2.1 b.2.2.2.2.2.1 b.2.2.2.2.2.2.1 b.2.2.2.2.2.2.2.1 b.2.2.2.2.2.2.2.2.1 b.2.2.2.2.2.2.2.2.2.1 b.2.2.2.2.2.2.2.2.2.2.1.1 b.2.2.2.2.2.2.2.2.2.2.2.1 b.2.2.2.2.2.2.2.2.2.2.2.2.1 b.2.2.2.2.2.2.2.2.2.2.2.2.2.1.1 b.2.2.2.2.2.2.2.2.2.2.2.2.2.1.2.1 kn kr)
theorem h_k24 (F_k32:B_k32) (F_k54:B_k54) (F_k44:B_k44) (L_k24_2:LT_k24_2→LM_k24_2→Option LO_k24_2) x1 x2 x3 x4 x5 x6 x7 x8 x9 x10 x11 x12 x13 x14 x15 x16 x17 x18 x19 {α:Type} (K:SV→Mem→Option α):callBody (table [(26,⟨args_k32,mem_k32,outs_k32,F_k32⟩),(70,⟨args_k54,mem_k54,outs_k54,F_k54⟩),(24,⟨args_k44,mem_k44,outs_k44,F_k44⟩)] [(2,⟨ltmps_k24_2,lmem_k24_2,louts_k24_2,L_k24_2⟩)]) br_k24 rc_k24 fd_k24 (args_k24.svs (x1,(x2,x3,()),())) (mem_k24.mem ((x4,x5,x6,()),(x7,x8,x9,()),(),x10,x11,x12,x13,x14,x15,x16,(x17,()),x18,x19,())) K = tree_k24 F_k32 F_k54 F_k44 L_k24_2 x1 x2 x3 x4 x5 x6 x7 x8 x9 x10 x11 x12 x13 x14 x15 x16 x17 x18 x19 (fun r=>outsRun outs_k24 r K):=by kernel_rfl
noncomputable def C_k24:Con:=⟨args_k24,mem_k24,outs_k24,F_k24⟩
theorem k_k24:Known Try.prog fd_k24 [(26,C_k32),(70,C_k54),(24,C_k44)] [(2,D_k24_2)]:=known_of mixT (by kernel_rfl) ⟨ok_k32,ok_k54,ok_k44,trivial⟩ ⟨okl_k24_2,trivial⟩
theorem fn_k24:FnOK Try.prog an_k24 69 Try.f69 fd_k24:=fnOK (by kernel_rfl) (by kernel_rfl) (by kernel_rfl)
theorem ok_k24:ConOK Try.prog 69 C_k24:=con_of k_k24 (byRef:=br_k24) fn_k24 rc_k24 args_k24 mem_k24 outs_k24 (fun a b K=>tree_k24 F_k32 F_k54 F_k44 L_k24_2 a.1 a.2.1.1 a.2.1.2.1 b.1.1 b.1.2.1 b.1.2.2.1 b.2.1.1 b.2.1.2.1 b.2.1.2.2.1 b.2.2.2.1 b.2.2.2.2.1 b.2.2.2.2.2.1 b.2.2.2.2.2.2.1 b.2.2.2.2.2.2.2.1 b.2.2.2.2.2.2.2.2.1 b.2.2.2.2.2.2.2.2.2.1 b.2.2.2.2.2.2.2.2.2.2.1.1 b.2.2.2.2.2.2.2.2.2.2.2.1 b.2.2.2.2.2.2.2.2.2.2.2.2.1 K) (fun a b=>h_k24 F_k32 F_k54 F_k44 L_k24_2 _ _ _ _ _ _ _ _ _ _ _ _ _ _ _ _ _ _ _ _) (fun a b K=>n_k24 F_k32 F_k54 F_k44 L_k24_2 _ _ _ _ _ _ _ _ _ _ _ _ _ _ _ _ _ _ _ K)
def an_k15:Nat→LAnn:=fun n=>(find n []).getD ⟨0,[],[],[],[]⟩
noncomputable def fd_k15:FD:=fdOf Try.prog an_k15 Try.f43
def br_k15:FuncId→CC:=fun f=>⟨([62,69,71]:List Nat).contains f,(find f [(62,[0,1,2,3,4,5,6,7,8,9,10,11]),(69,[0,1,2,3,4,5,6,7,8,9,10,11]),(71,[0,1,2,3,4,5,6,7,8,9,10,11])]).getD [],(find f [(71,[(0,9,9,.cons .str .nil)])]).getD []⟩
def rc_k15:RC:=⟨false,[(3,9,9,.cons .str .nil),(12,2,196,.cons (.int .i64) (.cons .str .nil))],[]⟩
theorem h_k15 (F_k21:B_k21) (F_k24:B_k24) (F_k54:B_k54) (F_k56:B_k56) x1 x2 x3 x4 x5 x6 x7 x8 x9 x10 x11 x12 x13 x14 x15 x16 x17 x18 x19 {α:Type} (K:SV→Mem→Option α):callBody (table [(62,⟨args_k21,mem_k21,outs_k21,F_k21⟩),(69,⟨args_k24,mem_k24,outs_k24,F_k24⟩),(70,⟨args_k54,mem_k54,outs_k54,F_k54⟩),(71,⟨args_k56,mem_k56,outs_k56,F_k56⟩)] []) br_k15 rc_k15 fd_k15 (args_k15.svs (x1,(x2,x3,()),())) (mem_k15.mem ((x4,x5,x6,()),(x7,x8,x9,()),(),x10,x11,x12,x13,x14,x15,x16,(x17,()),x18,x19,())) K = tree_k15 F_k21 F_k24 F_k54 F_k56 x1 x2 x3 x4 x5 x6 x7 x8 x9 x10 x11 x12 x13 x14 x15 x16 x17 x18 x19 (fun r=>outsRun outs_k15 r K):=by kernel_rfl
noncomputable def C_k15:Con:=⟨args_k15,mem_k15,outs_k15,F_k15⟩
theorem k_k15:Known Try.prog fd_k15 [(62,C_k21),(69,C_k24),(70,C_k54),(71,C_k56)] []:=known_of mixT (by kernel_rfl) ⟨ok_k21,ok_k24,ok_k54,ok_k56,trivial⟩ trivial
theorem fn_k15:FnOK Try.prog an_k15 43 Try.f43 fd_k15:=fnOK (by kernel_rfl) (by kernel_rfl) (by kernel_rfl)
theorem ok_k15:ConOK Try.prog 43 C_k15:=con_of k_k15 (byRef:=br_k15) fn_k15 rc_k15 args_k15 mem_k15 outs_k15 (fun a b K=>tree_k15 F_k21 F_k24 F_k54 F_k56 a.1 a.2.1.1 a.2.1.2.1 b.1.1 b.1.2.1 b.1.2.2.1 b.2.1.1 b.2.1.2.1 b.2.1.2.2.1 b.2.2.2.1 b.2.2.2.2.1 b.2.2.2.2.2.1 b.2.2.2.2.2.2.1 b.2.2.2.2.2.2.2.1 b.2.2.2.2.2.2.2.2.1 b.2.2.2.2.2.2.2.2.2.1 b.2.2.2.2.2.2.2.2.2.2.1.1 b.2.2.2.2.2.2.2.2.2.2.2.1 b.2.2.2.2.2.2.2.2.2.2.2.2.1 K) (fun a b=>h_k15 F_k21 F_k24 F_k54 F_k56 _ _ _ _ _ _ _ _ _ _ _ _ _ _ _ _ _ _ _ _) (fun a b K=>n_k15 F_k21 F_k24 F_k54 F_k56 _ _ _ _ _ _ _ _ _ _ _ _ _ _ _ _ _ _ _ K)
def an_k20:Nat→LAnn:=fun n=>(find n []).getD ⟨0,[],[],[],[]⟩
noncomputable def fd_k20:FD:=fdOf Try.prog an_k20 Try.f64
def br_k20:FuncId→CC:=fun f=>⟨([66]:List Nat).contains f,(find f [(66,[0,1,2,3,4,5,6,7,8,9,10,11])]).getD [],(find f [(66,[(0,9,9,.cons .str .nil)])]).getD []⟩
def rc_k20:RC:=⟨false,[(6,9,9,.cons .str .nil)],[(6,9,13)]⟩
theorem h_k20 (F_k53:B_k53) (F_k55:B_k55) x1 x2 x3 x4 x5 x6 x7 x8 x9 x10 x11 x12 x13 x14 x15 x16 x17 x18 x19 x20 {α:Type} (K:SV→Mem→Option α):callBody (table [(66,⟨args_k53,mem_k53,outs_k53,F_k53⟩),(65,⟨args_k55,mem_k55,outs_k55,F_k55⟩)] []) br_k20 rc_k20 fd_k20 (args_k20.svs (x1,())) (mem_k20.mem ((),(x2,()),(x3,()),(x4,()),(x5,x6,x7,()),(x8,x9,x10,()),(),x11,x12,x13,x14,x15,x16,x17,(x18,()),x19,x20,())) K = tree_k20 F_k53 F_k55 x1 x2 x3 x4 x5 x6 x7 x8 x9 x10 x11 x12 x13 x14 x15 x16 x17 x18 x19 x20 (fun r=>outsRun outs_k20 r K):=by kernel_rfl
noncomputable def C_k20:Con:=⟨args_k20,mem_k20,outs_k20,F_k20⟩
theorem k_k20:Known Try.prog fd_k20 [(66,C_k53),(65,C_k55)] []:=known_of mixT (by kernel_rfl) ⟨ok_k53,ok_k55,trivial⟩ trivial
theorem fn_k20:FnOK Try.prog an_k20 64 Try.f64 fd_k20:=fnOK (by kernel_rfl) (by kernel_rfl) (by kernel_rfl)
theorem ok_k20:ConOK Try.prog 64 C_k20:=con_of k_k20 (byRef:=br_k20) fn_k20 rc_k20 args_k20 mem_k20 outs_k20 (fun a b K=>tree_k20 F_k53 F_k55 a.1 b.2.1.1 b.2.2.1.1 b.2.2.2.1.1 b.2.2.2.2.1.1 b.2.2.2.2.1.2.1 b.2.2.2.2.1.2.2.1 b.2.2.2.2.2.1.1 b.2.2.2.2.2.1.2.1 b.2.2.2.2.2.1.2.2.1 b.2.2.2.2.2.2.2.1 b.2.2.2.2.2.2.2.2.1 b.2.2.2.2.2.2.2.2.2.1 b.2.2.2.2.2.2.2.2.2.2.1 b.2.2.2.2.2.2.2.2.2.2.2.1 b.2.2.2.2.2.2.2.2.2.2.2.2.1 b.2.2.2.2.2.2.2.2.2.2.2.2.2.1 b.2.2.2.2.2.2.2.2.2.2.2.2.2.2.1.1 b.2.2.2.2.2.2.2.2.2.2.2.2.2.2.2.1 b.2.2.2.2.2.2.2.2.2.2.2.2.2.2.2.2.1 K) (fun a b=>h_k20 F_k53 F_k55 _ _ _ _ _ _ _ _ _ _ _ _ _ _ _ _ _ _ _ _ _) (fun a b K=>n_k20 F_k53 F_k55 _ _ _ _ _ _ _ _ _ _ _ _ _ _ _ _ _ _ _ _ K)
def an_k18:Nat→LAnn:=fun n=>(find n []).getD ⟨0,[],[],[],[]⟩
noncomputable def fd_k18:FD:=fdOf Try.prog an_k18 Try.f77
def br_k18:FuncId→CC:=fun f=>⟨([]:List Nat).contains f,(find f []).getD [],(find f []).getD []⟩
def rc_k18:RC:=⟨true,[],[]⟩
theorem h_k18 x1 {α:Type} (K:SV→Mem→Option α):callBody (table [] []) br_k18 rc_k18 fd_k18 (args_k18.svs (x1,())) (mem_k18.mem ()) K = tree_k18 x1 (fun r=>outsRun outs_k18 r K):=by kernel_rfl
noncomputable def C_k18:Con:=⟨args_k18,mem_k18,outs_k18,F_k18⟩
theorem k_k18:Known Try.prog fd_k18 [] []:=known_of mixT (by kernel_rfl) trivial trivial
theorem fn_k18:FnOK Try.prog an_k18 77 Try.f77 fd_k18:=fnOK (by kernel_rfl) (by kernel_rfl) (by kernel_rfl)
theorem ok_k18:ConOK Try.prog 77 C_k18:=con_of k_k18 (byRef:=br_k18) fn_k18 rc_k18 args_k18 mem_k18 outs_k18 (fun a b K=>tree_k18 a.1 K) (fun a b=>h_k18 _ _) (fun a b K=>n_k18 _ K)
def an_k22:Nat→LAnn:=fun n=>(find n []).getD ⟨0,[],[],[],[]⟩
noncomputable def fd_k22:FD:=fdOf Try.prog an_k22 Try.f63
def br_k22:FuncId→CC:=fun f=>⟨([24,62,64,69,85]:List Nat).contains f,(find f [(24,[0,1,2,3,4,5,6,7,8,9,10,11]),(62,[0,1,2,3,4,5,6,7,8,9,10,11]),(64,[0,1,2,3,4,5,6,7,8,9,10,11]),(69,[0,1,2,3,4,5,6,7,8,9,10,11]),(85,[0,1,2,3,4,5,6,7,8,9,10,11])]).getD [],(find f [(24,[(0,9,9,.cons .str .nil)])]).getD []⟩
def rc_k22:RC:=⟨false,[(7,9,9,.cons .str .nil),(16,2,196,.cons (.int .i64) (.cons .str .nil))],[(7,9,13),(16,2,16)]⟩
theorem h_k22 (F_k21:B_k21) (F_k24:B_k24) (F_k44:B_k44) (F_k69:B_k69) (F_k20:B_k20) x1 x2 x3 x4 x5 x6 x7 x8 x9 x10 x11 x12 x13 x14 x15 x16 x17 x18 x19 x20 x21 x22 {α:Type} (K:SV→Mem→Option α):callBody (table [(62,⟨args_k21,mem_k21,outs_k21,F_k21⟩),(69,⟨args_k24,mem_k24,outs_k24,F_k24⟩),(24,⟨args_k44,mem_k44,outs_k44,F_k44⟩),(85,⟨args_k69,mem_k69,outs_k69,F_k69⟩),(64,⟨args_k20,mem_k20,outs_k20,F_k20⟩)] []) br_k22 rc_k22 fd_k22 (args_k22.svs (x1,(x2,x3,()),(),())) (mem_k22.mem ((x4,x5,x6,()),(),(x7,()),(x8,()),(x9,()),(x10,x11,x12,()),(),x13,x14,x15,x16,x17,x18,x19,(x20,()),x21,x22,())) K = tree_k22 F_k21 F_k24 F_k44 F_k69 F_k20 x1 x2 x3 x4 x5 x6 x7 x8 x9 x10 x11 x12 x13 x14 x15 x16 x17 x18 x19 x20 x21 x22 (fun r=>outsRun outs_k22 r K):=by kernel_rfl
noncomputable def C_k22:Con:=⟨args_k22,mem_k22,outs_k22,F_k22⟩
theorem k_k22:Known Try.prog fd_k22 [(62,C_k21),(69,C_k24),(24,C_k44),(85,C_k69),(64,C_k20)] []:=known_of mixT (by kernel_rfl) ⟨ok_k21,ok_k24,ok_k44,ok_k69,ok_k20,trivial⟩ trivial
theorem fn_k22:FnOK Try.prog an_k22 63 Try.f63 fd_k22:=fnOK (by kernel_rfl) (by kernel_rfl) (by kernel_rfl)
theorem ok_k22:ConOK Try.prog 63 C_k22:=con_of k_k22 (byRef:=br_k22) fn_k22 rc_k22 args_k22 mem_k22 outs_k22 (fun a b K=>tree_k22 F_k21 F_k24 F_k44 F_k69 F_k20 a.1 a.2.1.1 a.2.1.2.1 b.1.1 b.1.2.1 b.1.2.2.1 b.2.2.1.1 b.2.2.2.1.1 b.2.2.2.2.1.1 b.2.2.2.2.2.1.1 b.2.2.2.2.2.1.2.1 b.2.2.2.2.2.1.2.2.1 b.2.2.2.2.2.2.2.1 b.2.2.2.2.2.2.2.2.1 b.2.2.2.2.2.2.2.2.2.1 b.2.2.2.2.2.2.2.2.2.2.1 b.2.2.2.2.2.2.2.2.2.2.2.1 b.2.2.2.2.2.2.2.2.2.2.2.2.1 b.2.2.2.2.2.2.2.2.2.2.2.2.2.1 b.2.2.2.2.2.2.2.2.2.2.2.2.2.2.1.1 b.2.2.2.2.2.2.2.2.2.2.2.2.2.2.2.1 b.2.2.2.2.2.2.2.2.2.2.2.2.2.2.2.2.1 K) (fun a b=>h_k22 F_k21 F_k24 F_k44 F_k69 F_k20 _ _ _ _ _ _ _ _ _ _ _ _ _ _ _ _ _ _ _ _ _ _ _) (fun a b K=>n_k22 F_k21 F_k24 F_k44 F_k69 F_k20 _ _ _ _ _ _ _ _ _ _ _ _ _ _ _ _ _ _ _ _ _ _ K)
def an_k23:Nat→LAnn:=fun n=>(find n []).getD ⟨0,[],[],[],[]⟩
noncomputable def fd_k23:FD:=fdOf Try.prog an_k23 Try.f63
def br_k23:FuncId→CC:=fun f=>⟨([24,62,69,85]:List Nat).contains f,(find f [(24,[0,1,2,3,4,5,6,7,8,9,10,11]),(62,[0,1,2,3,4,5,6,7,8,9,10,11]),(69,[0,1,2,3,4,5,6,7,8,9,10,11]),(85,[0,1,2,3,4,5,6,7,8,9,10,11])]).getD [],(find f [(24,[(0,9,9,.cons .str .nil)])]).getD []⟩
def rc_k23:RC:=⟨false,[(3,9,9,.cons .str .nil),(12,2,196,.cons (.int .i64) (.cons .str .nil))],[(3,9,9),(12,2,12)]⟩
theorem h_k23 (F_k21:B_k21) (F_k24:B_k24) (F_k44:B_k44) (F_k69:B_k69) (F_k18:B_k18) x1 x2 x3 x4 x5 x6 x7 x8 x9 x10 x11 x12 x13 x14 x15 x16 x17 x18 x19 {α:Type} (K:SV→Mem→Option α):callBody (table [(62,⟨args_k21,mem_k21,outs_k21,F_k21⟩),(69,⟨args_k24,mem_k24,outs_k24,F_k24⟩),(24,⟨args_k44,mem_k44,outs_k44,F_k44⟩),(85,⟨args_k69,mem_k69,outs_k69,F_k69⟩),(77,⟨args_k18,mem_k18,outs_k18,F_k18⟩)] []) br_k23 rc_k23 fd_k23 (args_k23.svs (x1,(x2,x3,()),())) (mem_k23.mem ((x4,x5,x6,()),(x7,x8,x9,()),(),x10,x11,x12,x13,x14,x15,x16,(x17,()),x18,x19,())) K = tree_k23 F_k21 F_k24 F_k44 F_k69 F_k18 x1 x2 x3 x4 x5 x6 x7 x8 x9 x10 x11 x12 x13 x14 x15 x16 x17 x18 x19 (fun r=>outsRun outs_k23 r K):=by kernel_rfl
noncomputable def C_k23:Con:=⟨args_k23,mem_k23,outs_k23,F_k23⟩
theorem k_k23:Known Try.prog fd_k23 [(62,C_k21),(69,C_k24),(24,C_k44),(85,C_k69),(77,C_k18)] []:=known_of mixT (by kernel_rfl) ⟨ok_k21,ok_k24,ok_k44,ok_k69,ok_k18,trivial⟩ trivial
theorem fn_k23:FnOK Try.prog an_k23 63 Try.f63 fd_k23:=fnOK (by kernel_rfl) (by kernel_rfl) (by kernel_rfl)
theorem ok_k23:ConOK Try.prog 63 C_k23:=con_of k_k23 (byRef:=br_k23) fn_k23 rc_k23 args_k23 mem_k23 outs_k23 (fun a b K=>tree_k23 F_k21 F_k24 F_k44 F_k69 F_k18 a.1 a.2.1.1 a.2.1.2.1 b.1.1 b.1.2.1 b.1.2.2.1 b.2.1.1 b.2.1.2.1 b.2.1.2.2.1 b.2.2.2.1 b.2.2.2.2.1 b.2.2.2.2.2.1 b.2.2.2.2.2.2.1 b.2.2.2.2.2.2.2.1 b.2.2.2.2.2.2.2.2.1 b.2.2.2.2.2.2.2.2.2.1 b.2.2.2.2.2.2.2.2.2.2.1.1 b.2.2.2.2.2.2.2.2.2.2.2.1 b.2.2.2.2.2.2.2.2.2.2.2.2.1 K) (fun a b=>h_k23 F_k21 F_k24 F_k44 F_k69 F_k18 _ _ _ _ _ _ _ _ _ _ _ _ _ _ _ _ _ _ _ _) (fun a b K=>n_k23 F_k21 F_k24 F_k44 F_k69 F_k18 _ _ _ _ _ _ _ _ _ _ _ _ _ _ _ _ _ _ _ K)
def an_k19:Nat→LAnn:=fun n=>(find n []).getD ⟨0,[],[],[],[]⟩
noncomputable def fd_k19:FD:=fdOf Try.prog an_k19 Try.f39
def br_k19:FuncId→CC:=fun f=>⟨([62,63]:List Nat).contains f,(find f [(62,[0,1,2,3,4,5,6,7,8,9,10,11]),(63,[0,1,2,3,4,5,6,7,8,9,10,11])]).getD [],(find f []).getD []⟩
def rc_k19:RC:=⟨false,[(3,9,9,.cons .str .nil),(12,2,196,.cons (.int .i64) (.cons .str .nil))],[(3,9,9),(12,2,12)]⟩
theorem h_k19 (F_k21:B_k21) (F_k22:B_k22) (F_k23:B_k23) x1 x2 x3 x4 x5 x6 x7 x8 x9 x10 x11 x12 x13 x14 x15 x16 x17 x18 x19 x20 x21 {α:Type} (K:SV→Mem→Option α):callBody (table [(62,⟨args_k21,mem_k21,outs_k21,F_k21⟩),(63,⟨args_k22,mem_k22,outs_k22,F_k22⟩),(63,⟨args_k23,mem_k23,outs_k23,F_k23⟩)] []) br_k19 rc_k19 fd_k19 (args_k19.svs (x1,x2,x3,(x4,x5,()),())) (mem_k19.mem ((x6,x7,x8,()),(x9,x10,x11,()),(),x12,x13,x14,x15,x16,x17,x18,(x19,()),x20,x21,())) K = tree_k19 F_k21 F_k22 x1 x2 x3 x4 x5 x6 x7 x8 x9 x10 x11 x12 x13 x14 x15 x16 x17 x18 x19 x20 x21 (fun r=>outsRun outs_k19 r K):=by kernel_rfl
noncomputable def C_k19:Con:=⟨args_k19,mem_k19,outs_k19,F_k19⟩
theorem k_k19:Known Try.prog fd_k19 [(62,C_k21),(63,C_k22),(63,C_k23)] []:=known_of mixT (by kernel_rfl) ⟨ok_k21,ok_k22,ok_k23,trivial⟩ trivial
theorem fn_k19:FnOK Try.prog an_k19 39 Try.f39 fd_k19:=fnOK (by kernel_rfl) (by kernel_rfl) (by kernel_rfl)
theorem ok_k19:ConOK Try.prog 39 C_k19:=con_of k_k19 (byRef:=br_k19) fn_k19 rc_k19 args_k19 mem_k19 outs_k19 (fun a b K=>tree_k19 F_k21 F_k22 a.1 a.2.1 a.2.2.1 a.2.2.2.1.1 a.2.2.2.1.2.1 b.1.1 b.1.2.1 b.1.2.2.1 b.2.1.1 b.2.1.2.1 b.2.1.2.2.1 b.2.2.2.1 b.2.2.2.2.1 b.2.2.2.2.2.1 b.2.2.2.2.2.2.1 b.2.2.2.2.2.2.2.1 b.2.2.2.2.2.2.2.2.1 b.2.2.2.2.2.2.2.2.2.1 b.2.2.2.2.2.2.2.2.2.2.1.1 b.2.2.2.2.2.2.2.2.2.2.2.1 b.2.2.2.2.2.2.2.2.2.2.2.2.1 K) (fun a b=>h_k19 F_k21 F_k22 F_k23 _ _ _ _ _ _ _ _ _ _ _ _ _ _ _ _ _ _ _ _ _ _) (fun a b K=>n_k19 F_k21 F_k22 _ _ _ _ _ _ _ _ _ _ _ _ _ _ _ _ _ _ _ _ _ K)
def an_k17:Nat→LAnn:=fun n=>(find n []).getD ⟨0,[],[],[],[]⟩
noncomputable def fd_k17:FD:=fdOf Try.prog an_k17 Try.f47
def br_k17:FuncId→CC:=fun f=>⟨([63]:List Nat).contains f,(find f [(63,[0,1,2,3,4,5,6,7,8,9,10,11])]).getD [],(find f []).getD []⟩
def rc_k17:RC:=⟨false,[(2,9,9,.cons .str .nil),(11,2,196,.cons (.int .i64) (.cons .str .nil))],[(2,9,9),(11,2,12)]⟩
theorem h_k17 (F_k22:B_k22) (F_k23:B_k23) x1 x2 x3 x4 x5 x6 x7 x8 x9 x10 x11 x12 x13 x14 x15 x16 x17 x18 x19 {α:Type} (K:SV→Mem→Option α):callBody (table [(63,⟨args_k22,mem_k22,outs_k22,F_k22⟩),(63,⟨args_k23,mem_k23,outs_k23,F_k23⟩)] []) br_k17 rc_k17 fd_k17 (args_k17.svs (x1,(x2,x3,()),())) (mem_k17.mem ((x4,x5,x6,()),(x7,x8,x9,()),(),x10,x11,x12,x13,x14,x15,x16,(x17,()),x18,x19,())) K = tree_k17 F_k23 x1 x2 x3 x4 x5 x6 x7 x8 x9 x10 x11 x12 x13 x14 x15 x16 x17 x18 x19 (fun r=>outsRun outs_k17 r K):=by kernel_rfl
noncomputable def C_k17:Con:=⟨args_k17,mem_k17,outs_k17,F_k17⟩
theorem k_k17:Known Try.prog fd_k17 [(63,C_k22),(63,C_k23)] []:=known_of mixT (by kernel_rfl) ⟨ok_k22,ok_k23,trivial⟩ trivial
theorem fn_k17:FnOK Try.prog an_k17 47 Try.f47 fd_k17:=fnOK (by kernel_rfl) (by kernel_rfl) (by kernel_rfl)
theorem ok_k17:ConOK Try.prog 47 C_k17:=con_of k_k17 (byRef:=br_k17) fn_k17 rc_k17 args_k17 mem_k17 outs_k17 (fun a b K=>tree_k17 F_k23 a.1 a.2.1.1 a.2.1.2.1 b.1.1 b.1.2.1 b.1.2.2.1 b.2.1.1 b.2.1.2.1 b.2.1.2.2.1 b.2.2.2.1 b.2.2.2.2.1 b.2.2.2.2.2.1 b.2.2.2.2.2.2.1 b.2.2.2.2.2.2.2.1 b.2.2.2.2.2.2.2.2.1 b.2.2.2.2.2.2.2.2.2.1 b.2.2.2.2.2.2.2.2.2.2.1.1 b.2.2.2.2.2.2.2.2.2.2.2.1 b.2.2.2.2.2.2.2.2.2.2.2.2.1 K) (fun a b=>h_k17 F_k22 F_k23 _ _ _ _ _ _ _ _ _ _ _ _ _ _ _ _ _ _ _ _) (fun a b K=>n_k17 F_k23 _ _ _ _ _ _ _ _ _ _ _ _ _ _ _ _ _ _ _ K)
def an_k14:Nat→LAnn:=fun n=>(find n []).getD ⟨0,[],[],[],[]⟩
noncomputable def fd_k14:FD:=fdOf Try.prog an_k14 Try.f61
def br_k14:FuncId→CC:=fun f=>⟨([15,84]:List Nat).contains f,(find f [(15,[0,1,2,3,4,5,6,7,8,9,10,11]),(84,[0,1,2,3,4,5,6,7,8,9,10,11])]).getD [],(find f [(15,[(0,9,9,.cons .str .nil)])]).getD []⟩
def rc_k14:RC:=⟨false,[(2,9,9,.cons .str .nil),(11,2,196,.cons (.int .i64) (.cons .str .nil))],[(11,2,12)]⟩
theorem h_k14 (F_k43:B_k43) (F_k70:B_k70) x1 x2 x3 x4 x5 x6 x7 x8 x9 x10 x11 x12 x13 x14 x15 x16 {α:Type} (K:SV→Mem→Option α):callBody (table [(15,⟨args_k43,mem_k43,outs_k43,F_k43⟩),(84,⟨args_k70,mem_k70,outs_k70,F_k70⟩)] []) br_k14 rc_k14 fd_k14 (args_k14.svs ()) (mem_k14.mem ((x1,x2,x3,()),(x4,x5,x6,()),(),x7,x8,x9,x10,x11,x12,x13,(x14,()),x15,x16,())) K = tree_k14 F_k43 F_k70 x1 x2 x3 x4 x5 x6 x7 x8 x9 x10 x11 x12 x13 x14 x15 x16 (fun r=>outsRun outs_k14 r K):=by kernel_rfl
noncomputable def C_k14:Con:=⟨args_k14,mem_k14,outs_k14,F_k14⟩
theorem k_k14:Known Try.prog fd_k14 [(15,C_k43),(84,C_k70)] []:=known_of mixT (by kernel_rfl) ⟨ok_k43,ok_k70,trivial⟩ trivial
theorem fn_k14:FnOK Try.prog an_k14 61 Try.f61 fd_k14:=fnOK (by kernel_rfl) (by kernel_rfl) (by kernel_rfl)
theorem ok_k14:ConOK Try.prog 61 C_k14:=con_of k_k14 (byRef:=br_k14) fn_k14 rc_k14 args_k14 mem_k14 outs_k14 (fun a b K=>tree_k14 F_k43 F_k70 b.1.1 b.1.2.1 b.1.2.2.1 b.2.1.1 b.2.1.2.1 b.2.1.2.2.1 b.2.2.2.1 b.2.2.2.2.1 b.2.2.2.2.2.1 b.2.2.2.2.2.2.1 b.2.2.2.2.2.2.2.1 b.2.2.2.2.2.2.2.2.1 b.2.2.2.2.2.2.2.2.2.1 b.2.2.2.2.2.2.2.2.2.2.1.1 b.2.2.2.2.2.2.2.2.2.2.2.1 b.2.2.2.2.2.2.2.2.2.2.2.2.1 K) (fun a b=>h_k14 F_k43 F_k70 _ _ _ _ _ _ _ _ _ _ _ _ _ _ _ _ _) (fun a b K=>n_k14 F_k43 F_k70 _ _ _ _ _ _ _ _ _ _ _ _ _ _ _ _ K)
def an_k16:Nat→LAnn:=fun n=>(find n []).getD ⟨0,[],[],[],[]⟩
noncomputable def fd_k16:FD:=fdOf Try.prog an_k16 Try.f44
def br_k16:FuncId→CC:=fun f=>⟨([67,68,69]:List Nat).contains f,(find f [(67,[0,1,2,3,4,5,6,7,8,9,10,11]),(68,[0,1,2,3,4,5,6,7,8,9,10,11]),(69,[0,1,2,3,4,5,6,7,8,9,10,11])]).getD [],(find f []).getD []⟩
def rc_k16:RC:=⟨false,[(3,9,9,.cons .str .nil),(12,2,196,.cons (.int .i64) (.cons .str .nil))],[(12,2,12)]⟩
theorem h_k16 (F_k25:B_k25) (F_k24:B_k24) (F_k26:B_k26) x1 x2 x3 x4 x5 x6 x7 x8 x9 x10 x11 x12 x13 x14 x15 x16 x17 x18 {α:Type} (K:SV→Mem→Option α):callBody (table [(67,⟨args_k25,mem_k25,outs_k25,F_k25⟩),(69,⟨args_k24,mem_k24,outs_k24,F_k24⟩),(68,⟨args_k26,mem_k26,outs_k26,F_k26⟩)] []) br_k16 rc_k16 fd_k16 (args_k16.svs ((x1,x2,()),())) (mem_k16.mem ((x3,x4,x5,()),(x6,x7,x8,()),(),x9,x10,x11,x12,x13,x14,x15,(x16,()),x17,x18,())) K = tree_k16 F_k25 F_k24 F_k26 x1 x2 x3 x4 x5 x6 x7 x8 x9 x10 x11 x12 x13 x14 x15 x16 x17 x18 (fun r=>outsRun outs_k16 r K):=by kernel_rfl
noncomputable def C_k16:Con:=⟨args_k16,mem_k16,outs_k16,F_k16⟩
theorem k_k16:Known Try.prog fd_k16 [(67,C_k25),(69,C_k24),(68,C_k26)] []:=known_of mixT (by kernel_rfl) ⟨ok_k25,ok_k24,ok_k26,trivial⟩ trivial
theorem fn_k16:FnOK Try.prog an_k16 44 Try.f44 fd_k16:=fnOK (by kernel_rfl) (by kernel_rfl) (by kernel_rfl)
theorem ok_k16:ConOK Try.prog 44 C_k16:=con_of k_k16 (byRef:=br_k16) fn_k16 rc_k16 args_k16 mem_k16 outs_k16 (fun a b K=>tree_k16 F_k25 F_k24 F_k26 a.1.1 a.1.2.1 b.1.1 b.1.2.1 b.1.2.2.1 b.2.1.1 b.2.1.2.1 b.2.1.2.2.1 b.2.2.2.1 b.2.2.2.2.1 b.2.2.2.2.2.1 b.2.2.2.2.2.2.1 b.2.2.2.2.2.2.2.1 b.2.2.2.2.2.2.2.2.1 b.2.2.2.2.2.2.2.2.2.1 b.2.2.2.2.2.2.2.2.2.2.1.1 b.2.2.2.2.2.2.2.2.2.2.2.1 b.2.2.2.2.2.2.2.2.2.2.2.2.1 K) (fun a b=>h_k16 F_k25 F_k24 F_k26 _ _ _ _ _ _ _ _ _ _ _ _ _ _ _ _ _ _ _) (fun a b K=>n_k16 F_k25 F_k24 F_k26 _ _ _ _ _ _ _ _ _ _ _ _ _ _ _ _ _ _ K)
end Go.Proofs.Ytljfdfghagiblaa.S2
