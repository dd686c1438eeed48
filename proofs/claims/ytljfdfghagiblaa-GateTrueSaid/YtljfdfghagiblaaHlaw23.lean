/- The program's functions come to their plain forms,by program. -/
import Derived.Test.YtljfdfghagiblaaGlaw23
import Derived.Test.YtljfdfghagiblaaHgate
set_option maxRecDepth 100000
set_option maxHeartbeats 0
set_option linter.unusedVariables false
set_option linter.unusedSimpArgs false
namespace Go.Proofs.Ytljfdfghagiblaa.S2
open Go
def an_k38:Nat→LAnn:=fun n=>(find n []).getD ⟨0,[],[],[],[]⟩
noncomputable def fd_k38:FD:=fdOf Try.prog an_k38 Try.f37
def br_k38:FuncId→CC:=fun f=>⟨([59,60,61]:List Nat).contains f,(find f [(59,[0,1,2,3,4,5,6,7,8,9,10,11]),(60,[0,1,2,3,4,5,6,7,8,9,10,11]),(61,[0,1,2,3,4,5,6,7,8,9,10,11])]).getD [],(find f [(59,[(0,2,196,.cons (.int .i64) (.cons .str .nil))])]).getD []⟩
def rc_k38:RC:=⟨false,[(4,9,9,.cons .str .nil),(2,2,196,.cons (.int .i64) (.cons .str .nil))],[]⟩
theorem h_k38 (F_k12:B_k12) (F_k67:B_k67) (F_k27:B_k27) (F_k14:B_k14) x1 x2 x3 x4 x5 x6 x7 x8 x9 x10 x11 {α:Type} (K:SV→Mem→Option α):callBody (table [(58,⟨args_k12,mem_k12,outs_k12,F_k12⟩),(59,⟨args_k67,mem_k67,outs_k67,F_k67⟩),(60,⟨args_k27,mem_k27,outs_k27,F_k27⟩),(61,⟨args_k14,mem_k14,outs_k14,F_k14⟩)] []) br_k38 rc_k38 fd_k38 (args_k38.svs (x1,())) (mem_k38.mem ((x2,x3,x4,()),x5,x6,x7,x8,x9,x10,x11,())) K = tree_k38 F_k12 F_k67 F_k27 F_k14 x1 x2 x3 x4 x5 x6 x7 x8 x9 x10 x11 (fun r=>outsRun outs_k38 r K):=by kernel_rfl
noncomputable def C_k38:Con:=⟨args_k38,mem_k38,outs_k38,F_k38⟩
theorem k_k38:Known Try.prog fd_k38 [(58,C_k12),(59,C_k67),(60,C_k27),(61,C_k14)] []:=known_of mixT (by kernel_rfl) ⟨ok_k12,ok_k67,ok_k27,ok_k14,trivial⟩ trivial
theorem fn_k38:FnOK Try.prog an_k38 37 Try.f37 fd_k38:=fnOK (by kernel_rfl) (by kernel_rfl) (by kernel_rfl)
theorem ok_k38:ConOK Try.prog 37 C_k38:=con_of k_k38 (byRef:=br_k38) fn_k38 rc_k38 args_k38 mem_k38 outs_k38 (fun a b K=>tree_k38 F_k12 F_k67 F_k27 F_k14 a.1 b.1.1 b.1.2.1 b.1.2.2.1 b.2.1 b.2.2.1 b.2.2.2.1 b.2.2.2.2.1 b.2.2.2.2.2.1 b.2.2.2.2.2.2.1 b.2.2.2.2.2.2.2.1 K) (fun a b=>h_k38 F_k12 F_k67 F_k27 F_k14 _ _ _ _ _ _ _ _ _ _ _ _) (fun a b K=>n_k38 F_k12 F_k67 F_k27 F_k14 _ _ _ _ _ _ _ _ _ _ _ K)
def an_k37:Nat→LAnn:=fun n=>(find n []).getD ⟨0,[],[],[],[]⟩
noncomputable def fd_k37:FD:=fdOf Try.prog an_k37 Try.f38
def br_k37:FuncId→CC:=fun f=>⟨([15,37,39,41,43]:List Nat).contains f,(find f [(15,[0,1,2,3,4,5,6,7,8,9,10,11]),(37,[0,1,2,3,4,5,6,7,8,9,10,11]),(39,[0,1,2,3,4,5,6,7,8,9,10,11]),(41,[0,1,2,3,4,5,6,7,8,9,10,11]),(43,[0,1,2,3,4,5,6,7,8,9,10,11])]).getD [],(find f [(15,[(0,9,9,.cons .str .nil)]),(37,[(0,9,9,.cons .str .nil)])]).getD []⟩
def rc_k37:RC:=⟨true,[],[]⟩
theorem h_k37 (F_k28:B_k28) (F_k38:B_k38) (F_k43:B_k43) (F_k47:B_k47) (F_k15:B_k15) (F_k19:B_k19) (F_k13:B_k13) {α:Type} (K:SV→Mem→Option α):callBody (table [(13,⟨args_k28,mem_k28,outs_k28,F_k28⟩),(37,⟨args_k38,mem_k38,outs_k38,F_k38⟩),(15,⟨args_k43,mem_k43,outs_k43,F_k43⟩),(23,⟨args_k47,mem_k47,outs_k47,F_k47⟩),(43,⟨args_k15,mem_k15,outs_k15,F_k15⟩),(39,⟨args_k19,mem_k19,outs_k19,F_k19⟩),(41,⟨args_k13,mem_k13,outs_k13,F_k13⟩)] []) br_k37 rc_k37 fd_k37 (args_k37.svs ()) (mem_k37.mem ()) K = tree_k37 F_k28 F_k38 F_k43 F_k47 F_k15 F_k19 F_k13 (fun r=>outsRun outs_k37 r K):=by kernel_rfl
noncomputable def C_k37:Con:=⟨args_k37,mem_k37,outs_k37,F_k37⟩
theorem k_k37:Known Try.prog fd_k37 [(13,C_k28),(37,C_k38),(15,C_k43),(23,C_k47),(43,C_k15),(39,C_k19),(41,C_k13)] []:=known_of mixT (by kernel_rfl) ⟨ok_k28,ok_k38,ok_k43,ok_k47,ok_k15,ok_k19,ok_k13,trivial⟩ trivial
theorem fn_k37:FnOK Try.prog an_k37 38 Try.f38 fd_k37:=fnOK (by kernel_rfl) (by kernel_rfl) (by kernel_rfl)
theorem ok_k37:ConOK Try.prog 38 C_k37:=con_of k_k37 (byRef:=br_k37) fn_k37 rc_k37 args_k37 mem_k37 outs_k37 (fun a b K=>tree_k37 F_k28 F_k38 F_k43 F_k47 F_k15 F_k19 F_k13 K) (fun a b=>h_k37 F_k28 F_k38 F_k43 F_k47 F_k15 F_k19 F_k13 _) (fun a b K=>n_k37 F_k28 F_k38 F_k43 F_k47 F_k15 F_k19 F_k13 K)
def an_k42:Nat→LAnn:=fun n=>(find n []).getD ⟨0,[],[],[],[]⟩
noncomputable def fd_k42:FD:=fdOf Try.prog an_k42 Try.f40
def br_k42:FuncId→CC:=fun f=>⟨([15]:List Nat).contains f,(find f [(15,[0,1,2,3,4,5,6,7,8,9,10,11])]).getD [],(find f [(15,[(0,9,9,.cons .str .nil)])]).getD []⟩
def rc_k42:RC:=⟨false,[(2,9,9,.cons .str .nil)],[(2,9,9)]⟩
theorem h_k42 (F_k43:B_k43) (F_k47:B_k47) x1 x2 x3 x4 x5 x6 x7 x8 x9 x10 x11 x12 x13 x14 x15 x16 x17 x18 x19 x20 x21 x22 {α:Type} (K:SV→Mem→Option α):callBody (table [(15,⟨args_k43,mem_k43,outs_k43,F_k43⟩),(23,⟨args_k47,mem_k47,outs_k47,F_k47⟩)] []) br_k42 rc_k42 fd_k42 (args_k42.svs ((x1,x2,x3,x4,x5,x6,x7,x8,x9,()),())) (mem_k42.mem ((x10,x11,()),(x12,x13,x14,()),x15,x16,x17,x18,x19,x20,x21,x22,())) K = tree_k42 F_k43 F_k47 x1 x2 x3 x4 x5 x6 x7 x8 x9 x10 x11 x12 x13 x14 x15 x16 x17 x18 x19 x20 x21 x22 (fun r=>outsRun outs_k42 r K):=by kernel_rfl
noncomputable def C_k42:Con:=⟨args_k42,mem_k42,outs_k42,F_k42⟩
theorem k_k42:Known Try.prog fd_k42 [(15,C_k43),(23,C_k47)] []:=known_of mixT (by kernel_rfl) ⟨ok_k43,ok_k47,trivial⟩ trivial
theorem fn_k42:FnOK Try.prog an_k42 40 Try.f40 fd_k42:=fnOK (by kernel_rfl) (by kernel_rfl) (by kernel_rfl)
theorem ok_k42:ConOK Try.prog 40 C_k42:=con_of k_k42 (byRef:=br_k42) fn_k42 rc_k42 args_k42 mem_k42 outs_k42 (fun a b K=>tree_k42 F_k43 F_k47 a.1.1 a.1.2.1 a.1.2.2.1 a.1.2.2.2.1 a.1.2.2.2.2.1 a.1.2.2.2.2.2.1 a.1.2.2.2.2.2.2.1 a.1.2.2.2.2.2.2.2.1 a.1.2.2.2.2.2.2.2.2.1 b.1.1 b.1.2.1 b.2.1.1 b.2.1.2.1 b.2.1.2.2.1 b.2.2.1 b.2.2.2.1 b.2.2.2.2.1 b.2.2.2.2.2.1 b.2.2.2.2.2.2.1 b.2.2.2.2.2.2.2.1 b.2.2.2.2.2.2.2.2.1 b.2.2.2.2.2.2.2.2.2.1 K) (fun a b=>h_k42 F_k43 F_k47 _ _ _ _ _ _ _ _ _ _ _ _ _ _ _ _ _ _ _ _ _ _ _) (fun a b K=>n_k42 F_k43 F_k47 _ _ _ _ _ _ _ _ _ _ _ _ _ _ _ _ _ _ _ _ _ _ K)
def an_k41:Nat→LAnn:=fun n=>(find n []).getD ⟨0,[],[],[],[]⟩
noncomputable def fd_k41:FD:=fdOf Try.prog an_k41 Try.f42
def br_k41:FuncId→CC:=fun f=>⟨([]:List Nat).contains f,(find f []).getD [],(find f []).getD []⟩
def rc_k41:RC:=⟨false,[(0,1,1000000,.nil),(0,2,23,.cons (.slc 9 (.cons .str .nil)) .nil)],[(0,2,1)]⟩
theorem h_k41 x1 x2 x3 x4 x5 {α:Type} (K:SV→Mem→Option α):callBody (table [] []) br_k41 rc_k41 fd_k41 (args_k41.svs (x1,x2,())) (mem_k41.mem ((x3,x4,()),x5,())) K = tree_k41 x1 x2 x3 x4 x5 (fun r=>outsRun outs_k41 r K):=by kernel_rfl
noncomputable def C_k41:Con:=⟨args_k41,mem_k41,outs_k41,F_k41⟩
theorem k_k41:Known Try.prog fd_k41 [] []:=known_of mixT (by kernel_rfl) trivial trivial
theorem fn_k41:FnOK Try.prog an_k41 42 Try.f42 fd_k41:=fnOK (by kernel_rfl) (by kernel_rfl) (by kernel_rfl)
theorem ok_k41:ConOK Try.prog 42 C_k41:=con_of k_k41 (byRef:=br_k41) fn_k41 rc_k41 args_k41 mem_k41 outs_k41 (fun a b K=>tree_k41 a.1 a.2.1 b.1.1 b.1.2.1 b.2.1 K) (fun a b=>h_k41 _ _ _ _ _ _) (fun a b K=>n_k41 _ _ _ _ _ K)
def an_k39:Nat→LAnn:=fun n=>(find n []).getD ⟨0,[],[],[],[]⟩
noncomputable def fd_k39:FD:=fdOf Try.prog an_k39 Try.f72
def br_k39:FuncId→CC:=fun f=>⟨([]:List Nat).contains f,(find f []).getD [],(find f []).getD []⟩
def rc_k39:RC:=⟨false,[],[]⟩
theorem h_k39 x1 x2 x3 x4 x5 x6 x7 x8 {α:Type} (K:SV→Mem→Option α):callBody (table [] []) br_k39 rc_k39 fd_k39 (args_k39.svs (x1,x2,x3,())) (mem_k39.mem ((x4,x5,x6,x7,()),x8,())) K = tree_k39 x1 x2 x3 x4 x5 x6 x7 x8 (fun r=>outsRun outs_k39 r K):=by kernel_rfl
noncomputable def C_k39:Con:=⟨args_k39,mem_k39,outs_k39,F_k39⟩
theorem k_k39:Known Try.prog fd_k39 [] []:=known_of mixT (by kernel_rfl) trivial trivial
theorem fn_k39:FnOK Try.prog an_k39 72 Try.f72 fd_k39:=fnOK (by kernel_rfl) (by kernel_rfl) (by kernel_rfl)
theorem ok_k39:ConOK Try.prog 72 C_k39:=con_of k_k39 (byRef:=br_k39) fn_k39 rc_k39 args_k39 mem_k39 outs_k39 (fun a b K=>tree_k39 a.1 a.2.1 a.2.2.1 b.1.1 b.1.2.1 b.1.2.2.1 b.1.2.2.2.1 b.2.1 K) (fun a b=>h_k39 _ _ _ _ _ _ _ _ _) (fun a b K=>n_k39 _ _ _ _ _ _ _ _ K)
def an_k40:Nat→LAnn:=fun n=>(find n []).getD ⟨0,[],[],[],[]⟩
noncomputable def fd_k40:FD:=fdOf Try.prog an_k40 Try.f73
def br_k40:FuncId→CC:=fun f=>⟨([42]:List Nat).contains f,(find f [(42,[0,1,2,3,4,5,6,7,8,9,10,11])]).getD [],(find f [(42,[(0,1,1000000,.nil),(0,2,23,.cons (.slc 9 (.cons .str .nil)) .nil)])]).getD []⟩
def rc_k40:RC:=⟨false,[(2,1,1000000,.nil),(2,2,23,.cons (.slc 9 (.cons .str .nil)) .nil)],[(2,2,3)]⟩
theorem h_k40 (F_k41:B_k41) x1 x2 x3 x4 x5 x6 x7 x8 x9 {α:Type} (K:SV→Mem→Option α):callBody (table [(42,⟨args_k41,mem_k41,outs_k41,F_k41⟩)] []) br_k40 rc_k40 fd_k40 (args_k40.svs (x1,())) (mem_k40.mem ((x2,x3,x4,x5,()),(x6,x7,()),x8,x9,())) K = tree_k40 F_k41 x1 x2 x3 x4 x5 x6 x7 x8 x9 (fun r=>outsRun outs_k40 r K):=by kernel_rfl
noncomputable def C_k40:Con:=⟨args_k40,mem_k40,outs_k40,F_k40⟩
theorem k_k40:Known Try.prog fd_k40 [(42,C_k41)] []:=known_of mixT (by kernel_rfl) ⟨ok_k41,trivial⟩ trivial
theorem fn_k40:FnOK Try.prog an_k40 73 Try.f73 fd_k40:=fnOK (by kernel_rfl) (by kernel_rfl) (by kernel_rfl)
theorem ok_k40:ConOK Try.prog 73 C_k40:=con_of k_k40 (byRef:=br_k40) fn_k40 rc_k40 args_k40 mem_k40 outs_k40 (fun a b K=>tree_k40 F_k41 a.1 b.1.1 b.1.2.1 b.1.2.2.1 b.1.2.2.2.1 b.2.1.1 b.2.1.2.1 b.2.2.1 b.2.2.2.1 K) (fun a b=>h_k40 F_k41 _ _ _ _ _ _ _ _ _ _) (fun a b K=>n_k40 F_k41 _ _ _ _ _ _ _ _ _ K)
def an_k36:Nat→LAnn:=fun n=>(find n []).getD ⟨0,[],[],[],[]⟩
noncomputable def fd_k36:FD:=fdOf Try.prog an_k36 Try.f45
def br_k36:FuncId→CC:=fun f=>⟨([39,40,41,42,43,44,47,72,73,74]:List Nat).contains f,(find f [(39,[0,1,2,3,4,5,6,7,8,9,10,11]),(40,[0,1,2,3,4,5,6,7,8,9,10,11]),(41,[0,1,2,3,4,5,6,7,8,9,10,11]),(42,[0,1,2,3,4,5,6,7,8,9,10,11]),(43,[0,1,2,3,4,5,6,7,8,9,10,11]),(44,[0,1,2,3,4,5,6,7,8,9,10,11]),(47,[0,1,2,3,4,5,6,7,8,9,10,11]),(72,[0,1,2,3,4,5,6,7,8,9,10,11]),(73,[0,1,2,3,4,5,6,7,8,9,10,11]),(74,[0,1,2,3,4,5,6,7,8,9,10,11])]).getD [],(find f [(40,[(0,1,1000000,.nil),(0,2,23,.cons (.slc 9 (.cons .str .nil)) .nil),(1,9,9,.cons .str .nil)]),(42,[(0,1,1000000,.nil),(0,2,23,.cons (.slc 9 (.cons .str .nil)) .nil)]),(73,[(1,1,1000000,.nil),(1,2,23,.cons (.slc 9 (.cons .str .nil)) .nil)]),(74,[(0,2,196,.cons (.int .i64) (.cons .str .nil))])]).getD []⟩
def rc_k36:RC:=⟨false,[(3,9,9,.cons .str .nil),(2,2,196,.cons (.int .i64) (.cons .str .nil)),(4,1,1000000,.nil),(4,2,23,.cons (.slc 9 (.cons .str .nil)) .nil)],[(3,9,14),(2,2,7),(4,2,15)]⟩
theorem h_k36 (F_k42:B_k42) (F_k15:B_k15) (F_k19:B_k19) (F_k39:B_k39) (F_k17:B_k17) (F_k13:B_k13) (F_k40:B_k40) (F_k16:B_k16) (F_k41:B_k41) (F_k0:B_k0) x1 x2 x3 x4 x5 x6 x7 x8 x9 x10 x11 x12 x13 x14 x15 x16 x17 x18 x19 x20 x21 x22 x23 x24 x25 x26 x27 x28 x29 x30 x31 x32 x33 {α:Type} (K:SV→Mem→Option α):callBody (table [(40,⟨args_k42,mem_k42,outs_k42,F_k42⟩),(43,⟨args_k15,mem_k15,outs_k15,F_k15⟩),(39,⟨args_k19,mem_k19,outs_k19,F_k19⟩),(72,⟨args_k39,mem_k39,outs_k39,F_k39⟩),(47,⟨args_k17,mem_k17,outs_k17,F_k17⟩),(41,⟨args_k13,mem_k13,outs_k13,F_k13⟩),(73,⟨args_k40,mem_k40,outs_k40,F_k40⟩),(44,⟨args_k16,mem_k16,outs_k16,F_k16⟩),(42,⟨args_k41,mem_k41,outs_k41,F_k41⟩),(74,⟨args_k0,mem_k0,outs_k0,F_k0⟩)] []) br_k36 rc_k36 fd_k36 (args_k36.svs ((x1,x2,x3,x4,x5,x6,x7,x8,x9,()),())) (mem_k36.mem ((x10,x11,x12,()),(x13,()),(x14,x15,x16,()),(x17,x18,()),(x19,x20,x21,x22,()),(),x23,x24,x25,x26,x27,x28,x29,x30,x31,x32,x33,())) K = tree_k36 F_k42 F_k15 F_k19 F_k39 F_k17 F_k13 F_k40 F_k16 F_k41 F_k0 x1 x2 x3 x4 x5 x6 x7 x8 x9 x10 x11 x12 x13 x14 x15 x16 x17 x18 x19 x20 x21 x22 x23 x24 x25 x26 x27 x28 x29 x30 x31 x32 x33 (fun r=>outsRun outs_k36 r K):=by kernel_rfl
noncomputable def C_k36:Con:=⟨args_k36,mem_k36,outs_k36,F_k36⟩
theorem k_k36:Known Try.prog fd_k36 [(40,C_k42),(43,C_k15),(39,C_k19),(72,C_k39),(47,C_k17),(41,C_k13),(73,C_k40),(44,C_k16),(42,C_k41),(74,C_k0)] []:=known_of mixT (by kernel_rfl) ⟨ok_k42,ok_k15,ok_k19,ok_k39,ok_k17,ok_k13,ok_k40,ok_k16,ok_k41,ok_k0,trivial⟩ trivial
theorem fn_k36:FnOK Try.prog an_k36 45 Try.f45 fd_k36:=fnOK (by kernel_rfl) (by kernel_rfl) (by kernel_rfl)
theorem ok_k36:ConOK Try.prog 45 C_k36:=con_of k_k36 (byRef:=br_k36) fn_k36 rc_k36 args_k36 mem_k36 outs_k36 (fun a b K=>tree_k36 F_k42 F_k15 F_k19 F_k39 F_k17 F_k13 F_k40 F_k16 F_k41 F_k0 a.1.1 a.1.2.1 a.1.2.2.1 a.1.2.2.2.1 a.1.2.2.2.2.1 a.1.2.2.2.2.2.1 a.1.2.2.2.2.2.2.1 a.1.2.2.2.2.2.2.2.1 a.1.2.2.2.2.2.2.2.2.1 b.1.1 b.1.2.1 b.1.2.2.1 b.2.1.1 b.2.2.1.1 b.2.2.1.2.1 b.2.2.1.2.2.1 b.2.2.2.1.1 b.2.2.2.1.2.1 b.2.2.2.2.1.1 b.2.2.2.2.1.2.1 b.2.2.2.2.1.2.2.1 b.2.2.2.2.1.2.2.2.1 b.2.2.2.2.2.2.1 b.2.2.2.2.2.2.2.1 b.2.2.2.2.2.2.2.2.1 b.2.2.2.2.2.2.2.2.2.1 b.2.2.2.2.2.2.2.2.2.2.1 b.2.2.2.2.2.2.2.2.2.2.2.1 b.2.2.2.2.2.2.2.2.2.2.2.2.1 b.2.2.2.2.2.2.2.2.2.2.2.2.2.1 b.2.2.2.2.2.2.2.2.2.2.2.2.2.2.1 b.2.2.2.2.2.2.2.2.2.2.2.2.2.2.2.1 b.2.2.2.2.2.2.2.2.2.2.2.2.2.2.2.2.1 K) (fun a b=>h_k36 F_k42 F_k15 F_k19 F_k39 F_k17 F_k13 F_k40 F_k16 F_k41 F_k0 _ _ _ _ _ _ _ _ _ _ _ _ _ _ _ _ _ _ _ _ _ _ _ _ _ _ _ _ _ _ _ _ _ _) (fun a b K=>n_k36 F_k42 F_k15 F_k19 F_k39 F_k17 F_k13 F_k40 F_k16 F_k41 F_k0 _ _ _ _ _ _ _ _ _ _ _ _ _ _ _ _ _ _ _ _ _ _ _ _ _ _ _ _ _ _ _ _ _ K)
end Go.Proofs.Ytljfdfghagiblaa.S2
