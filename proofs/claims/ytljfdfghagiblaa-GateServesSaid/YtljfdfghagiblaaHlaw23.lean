/- The program's functions come to their plain forms,by program. -/
import Derived.Test.YtljfdfghagiblaaGlaw23
import Derived.Test.YtljfdfghagiblaaHgate
set_option maxRecDepth 100000
set_option maxHeartbeats 0
set_option linter.unusedVariables false
set_option linter.unusedSimpArgs false
namespace Go.Proofs.Ytljfdfghagiblaa.S2
open Go
def an_k35:Nat→LAnn:=fun n=>(find n []).getD ⟨0,[],[],[],[]⟩
noncomputable def fd_k35:FD:=fdOf Try.prog an_k35 Try.f37
def br_k35:FuncId→CC:=fun f=>⟨([59,60,61]:List Nat).contains f,(find f [(59,[0,1,2,3,4,5,6,7,8,9,10,11]),(60,[0,1,2,3,4,5,6,7,8,9,10,11]),(61,[0,1,2,3,4,5,6,7,8,9,10,11])]).getD [],(find f [(59,[(0,2,196,.cons (.int .i64) (.cons .str .nil))])]).getD []⟩
def rc_k35:RC:=⟨false,[(4,9,9,.cons .str .nil),(2,2,196,.cons (.int .i64) (.cons .str .nil))],[]⟩
theorem h_k35 (F_k11:B_k11) (F_k62:B_k62) (F_k25:B_k25) (F_k13:B_k13) x1 x2 x3 x4 x5 x6 x7 x8 x9 x10 x11 {α:Type} (K:SV→Mem→Option α):callBody (table [(58,⟨args_k11,mem_k11,outs_k11,F_k11⟩),(59,⟨args_k62,mem_k62,outs_k62,F_k62⟩),(60,⟨args_k25,mem_k25,outs_k25,F_k25⟩),(61,⟨args_k13,mem_k13,outs_k13,F_k13⟩)] []) br_k35 rc_k35 fd_k35 (args_k35.svs (x1,())) (mem_k35.mem ((x2,x3,x4,()),x5,x6,x7,x8,x9,x10,x11,())) K = tree_k35 F_k11 F_k62 F_k25 F_k13 x1 x2 x3 x4 x5 x6 x7 x8 x9 x10 x11 (fun r=>outsRun outs_k35 r K):=by kernel_rfl
noncomputable def C_k35:Con:=⟨args_k35,mem_k35,outs_k35,F_k35⟩
theorem k_k35:Known Try.prog fd_k35 [(58,C_k11),(59,C_k62),(60,C_k25),(61,C_k13)] []:=known_of mixT (by kernel_rfl) ⟨ok_k11,ok_k62,ok_k25,ok_k13,trivial⟩ trivial
theorem fn_k35:FnOK Try.prog an_k35 37 Try.f37 fd_k35:=fnOK (by kernel_rfl) (by kernel_rfl) (by kernel_rfl)
theorem ok_k35:ConOK Try.prog 37 C_k35:=con_of k_k35 (byRef:=br_k35) fn_k35 rc_k35 args_k35 mem_k35 outs_k35 (fun a b K=>tree_k35 F_k11 F_k62 F_k25 F_k13 a.1 b.1.1 b.1.2.1 b.1.2.2.1 b.2.1 b.2.2.1 b.2.2.2.1 b.2.2.2.2.1 b.2.2.2.2.2.1 b.2.2.2.2.2.2.1 b.2.2.2.2.2.2.2.1 K) (fun a b=>h_k35 F_k11 F_k62 F_k25 F_k13 _ _ _ _ _ _ _ _ _ _ _ _) (fun a b K=>n_k35 F_k11 F_k62 F_k25 F_k13 _ _ _ _ _ _ _ _ _ _ _ K)
def an_k34:Nat→LAnn:=fun n=>(find n []).getD ⟨0,[],[],[],[]⟩
noncomputable def fd_k34:FD:=fdOf Try.prog an_k34 Try.f38
def br_k34:FuncId→CC:=fun f=>⟨([15,37,39,41,43]:List Nat).contains f,(find f [(15,[0,1,2,3,4,5,6,7,8,9,10,11]),(37,[0,1,2,3,4,5,6,7,8,9,10,11]),(39,[0,1,2,3,4,5,6,7,8,9,10,11]),(41,[0,1,2,3,4,5,6,7,8,9,10,11]),(43,[0,1,2,3,4,5,6,7,8,9,10,11])]).getD [],(find f [(15,[(0,9,9,.cons .str .nil)]),(37,[(0,9,9,.cons .str .nil)])]).getD []⟩
def rc_k34:RC:=⟨true,[],[]⟩
theorem h_k34 (F_k26:B_k26) (F_k35:B_k35) (F_k38:B_k38) (F_k42:B_k42) (F_k14:B_k14) (F_k17:B_k17) (F_k12:B_k12) {α:Type} (K:SV→Mem→Option α):callBody (table [(13,⟨args_k26,mem_k26,outs_k26,F_k26⟩),(37,⟨args_k35,mem_k35,outs_k35,F_k35⟩),(15,⟨args_k38,mem_k38,outs_k38,F_k38⟩),(23,⟨args_k42,mem_k42,outs_k42,F_k42⟩),(43,⟨args_k14,mem_k14,outs_k14,F_k14⟩),(39,⟨args_k17,mem_k17,outs_k17,F_k17⟩),(41,⟨args_k12,mem_k12,outs_k12,F_k12⟩)] []) br_k34 rc_k34 fd_k34 (args_k34.svs ()) (mem_k34.mem ()) K = tree_k34 F_k26 F_k35 F_k38 F_k42 F_k14 F_k17 F_k12 (fun r=>outsRun outs_k34 r K):=by kernel_rfl
noncomputable def C_k34:Con:=⟨args_k34,mem_k34,outs_k34,F_k34⟩
theorem k_k34:Known Try.prog fd_k34 [(13,C_k26),(37,C_k35),(15,C_k38),(23,C_k42),(43,C_k14),(39,C_k17),(41,C_k12)] []:=known_of mixT (by kernel_rfl) ⟨ok_k26,ok_k35,ok_k38,ok_k42,ok_k14,ok_k17,ok_k12,trivial⟩ trivial
theorem fn_k34:FnOK Try.prog an_k34 38 Try.f38 fd_k34:=fnOK (by kernel_rfl) (by kernel_rfl) (by kernel_rfl)
theorem ok_k34:ConOK Try.prog 38 C_k34:=con_of k_k34 (byRef:=br_k34) fn_k34 rc_k34 args_k34 mem_k34 outs_k34 (fun a b K=>tree_k34 F_k26 F_k35 F_k38 F_k42 F_k14 F_k17 F_k12 K) (fun a b=>h_k34 F_k26 F_k35 F_k38 F_k42 F_k14 F_k17 F_k12 _) (fun a b K=>n_k34 F_k26 F_k35 F_k38 F_k42 F_k14 F_k17 F_k12 K)
def an_k37:Nat→LAnn:=fun n=>(find n []).getD ⟨0,[],[],[],[]⟩
noncomputable def fd_k37:FD:=fdOf Try.prog an_k37 Try.f40
def br_k37:FuncId→CC:=fun f=>⟨([15]:List Nat).contains f,(find f [(15,[0,1,2,3,4,5,6,7,8,9,10,11])]).getD [],(find f [(15,[(0,9,9,.cons .str .nil)])]).getD []⟩
def rc_k37:RC:=⟨false,[(2,9,9,.cons .str .nil)],[(2,9,9)]⟩
theorem h_k37 (F_k38:B_k38) (F_k42:B_k42) x1 x2 x3 x4 x5 x6 x7 x8 x9 x10 x11 x12 x13 x14 x15 x16 x17 x18 x19 x20 x21 x22 {α:Type} (K:SV→Mem→Option α):callBody (table [(15,⟨args_k38,mem_k38,outs_k38,F_k38⟩),(23,⟨args_k42,mem_k42,outs_k42,F_k42⟩)] []) br_k37 rc_k37 fd_k37 (args_k37.svs ((x1,x2,x3,x4,x5,x6,x7,x8,x9,()),())) (mem_k37.mem ((x10,x11,()),(x12,x13,x14,()),x15,x16,x17,x18,x19,x20,x21,x22,())) K = tree_k37 F_k38 F_k42 x1 x2 x3 x4 x5 x6 x7 x8 x9 x10 x11 x12 x13 x14 x15 x16 x17 x18 x19 x20 x21 x22 (fun r=>outsRun outs_k37 r K):=by kernel_rfl
noncomputable def C_k37:Con:=⟨args_k37,mem_k37,outs_k37,F_k37⟩
theorem k_k37:Known Try.prog fd_k37 [(15,C_k38),(23,C_k42)] []:=known_of mixT (by kernel_rfl) ⟨ok_k38,ok_k42,trivial⟩ trivial
theorem fn_k37:FnOK Try.prog an_k37 40 Try.f40 fd_k37:=fnOK (by kernel_rfl) (by kernel_rfl) (by kernel_rfl)
theorem ok_k37:ConOK Try.prog 40 C_k37:=con_of k_k37 (byRef:=br_k37) fn_k37 rc_k37 args_k37 mem_k37 outs_k37 (fun a b K=>tree_k37 F_k38 F_k42 a.1.1 a.1.2.1 a.1.2.2.1 a.1.2.2.2.1 a.1.2.2.2.2.1 a.1.2.2.2.2.2.1 a.1.2.2.2.2.2.2.1 a.1.2.2.2.2.2.2.2.1 a.1.2.2.2.2.2.2.2.2.1 b.1.1 b.1.2.1 b.2.1.1 b.2.1.2.1 b.2.1.2.2.1 b.2.2.1 b.2.2.2.1 b.2.2.2.2.1 b.2.2.2.2.2.1 b.2.2.2.2.2.2.1 b.2.2.2.2.2.2.2.1 b.2.2.2.2.2.2.2.2.1 b.2.2.2.2.2.2.2.2.2.1 K) (fun a b=>h_k37 F_k38 F_k42 _ _ _ _ _ _ _ _ _ _ _ _ _ _ _ _ _ _ _ _ _ _ _) (fun a b K=>n_k37 F_k38 F_k42 _ _ _ _ _ _ _ _ _ _ _ _ _ _ _ _ _ _ _ _ _ _ K)
def an_k36:Nat→LAnn:=fun n=>(find n []).getD ⟨0,[],[],[],[]⟩
noncomputable def fd_k36:FD:=fdOf Try.prog an_k36 Try.f42
def br_k36:FuncId→CC:=fun f=>⟨([]:List Nat).contains f,(find f []).getD [],(find f []).getD []⟩
def rc_k36:RC:=⟨false,[(0,1,1000000,.nil),(0,2,23,.cons (.slc 9 (.cons .str .nil)) .nil)],[(0,2,1)]⟩
theorem h_k36 x1 x2 x3 x4 x5 {α:Type} (K:SV→Mem→Option α):callBody (table [] []) br_k36 rc_k36 fd_k36 (args_k36.svs (x1,x2,())) (mem_k36.mem ((x3,x4,()),x5,())) K = tree_k36 x1 x2 x3 x4 x5 (fun r=>outsRun outs_k36 r K):=by kernel_rfl
noncomputable def C_k36:Con:=⟨args_k36,mem_k36,outs_k36,F_k36⟩
theorem k_k36:Known Try.prog fd_k36 [] []:=known_of mixT (by kernel_rfl) trivial trivial
theorem fn_k36:FnOK Try.prog an_k36 42 Try.f42 fd_k36:=fnOK (by kernel_rfl) (by kernel_rfl) (by kernel_rfl)
theorem ok_k36:ConOK Try.prog 42 C_k36:=con_of k_k36 (byRef:=br_k36) fn_k36 rc_k36 args_k36 mem_k36 outs_k36 (fun a b K=>tree_k36 a.1 a.2.1 b.1.1 b.1.2.1 b.2.1 K) (fun a b=>h_k36 _ _ _ _ _ _) (fun a b K=>n_k36 _ _ _ _ _ K)
end Go.Proofs.Ytljfdfghagiblaa.S2
