/- The program's functions come to their plain forms,by program. -/
import Derived.Test.YtljfdfghagiblaaGideal
import Derived.Test.YtljfdfghagiblaaHbase
set_option maxRecDepth 100000
set_option maxHeartbeats 0
set_option linter.unusedVariables false
set_option linter.unusedSimpArgs false
namespace Go.Proofs.Ytljfdfghagiblaa.S2
open Go
def an_k51:Nat→LAnn:=fun n=>(find n []).getD ⟨0,[],[],[],[]⟩
noncomputable def fd_k51:FD:=fdOf Try.prog an_k51 Try.f48
def br_k51:FuncId→CC:=fun f=>⟨([]:List Nat).contains f,(find f []).getD [],(find f []).getD []⟩
def rc_k51:RC:=⟨true,[],[]⟩
theorem h_k51 x1 {α:Type} (K:SV→Mem→Option α):callBody (table [] []) br_k51 rc_k51 fd_k51 (args_k51.svs (x1,())) (mem_k51.mem ()) K = tree_k51 x1 (fun r=>outsRun outs_k51 r K):=by kernel_rfl
noncomputable def C_k51:Con:=⟨args_k51,mem_k51,outs_k51,F_k51⟩
theorem k_k51:Known Try.prog fd_k51 [] []:=known_of mixT (by kernel_rfl) trivial trivial
theorem fn_k51:FnOK Try.prog an_k51 48 Try.f48 fd_k51:=fnOK (by kernel_rfl) (by kernel_rfl) (by kernel_rfl)
theorem h0_s_Clone_u:callBody (table [] []) br_k51 ⟨true,[],[]⟩ fd_k51 [.nils] [] (fun v m=>some (v,m)) = some (.ps 41 (.cons (.int .u64) .nil) [],[]):=by kernel_rfl
theorem h1_s_Clone_u:callBody (table [] []) br_k51 ⟨true,[],[]⟩ fd_k51 [.pe] [] (fun v m=>some (v,m)) = some (.ps 41 (.cons (.int .u64) .nil) [],[]):=by kernel_rfl
theorem ok_k51:ConOK Try.prog 48 C_k51:=by
  have h0:F_k51 ([],()) () = some ([],()):=by simp [F_k51]
  refine con_slc (e:=41) (r:=(.cons (.int .u64) .nil)) (outs:=outs_k51) (F:=F_k51) ?_ ?_ ?_
  · intro o ho
    cases Option.some.inj (h0.symm.trans ho)
    exact call_of k_k51 fn_k51 ⟨true,[],[]⟩ h0_s_Clone_u
  · intro o ho
    cases Option.some.inj (h0.symm.trans ho)
    exact call_of k_k51 fn_k51 ⟨true,[],[]⟩ h1_s_Clone_u
  · intro x xs o ho
    have h2:=h_k51 (x :: xs) (fun v m=>some (v,m))
    have ho:cond (decide ((x :: xs).length * 8≤140737488355328)) (some (x :: xs,())) none = some o:=ho
    cases hb:decide ((x :: xs).length * 8≤140737488355328) with
    | false=>rw [hb] at ho; cases ho
    | true =>
    rw [hb] at ho
    cases ho
    refine call_of k_k51 fn_k51 ⟨true,[],[]⟩ (h2.trans ?_)
    have hb2:decide ((0 + (xs.length + 1)) * 8≤140737488355328) = true:=by rw [Nat.zero_add]; exact hb
    show (cond (decide (0 < xs.length + 1)) (cond (decide ((0 + (xs.length + 1)) * 8≤140737488355328)) (some _) none) none:Option (SV×Mem)) = _
    rw [hb2,decide_eq_true (Nat.succ_pos _)]
    rfl
def an_k28:Nat→LAnn:=fun n=>(find n []).getD ⟨0,[],[],[],[]⟩
noncomputable def fd_k28:FD:=fdOf Try.prog an_k28 Try.f13
def br_k28:FuncId→CC:=fun f=>⟨([]:List Nat).contains f,(find f []).getD [],(find f []).getD []⟩
def rc_k28:RC:=⟨false,[(0,9,9,.cons .str .nil)],[]⟩
theorem h_k28 (F_k51:B_k51) x1 {α:Type} (K:SV→Mem→Option α):callBody (table [(48,⟨args_k51,mem_k51,outs_k51,F_k51⟩)] []) br_k28 rc_k28 fd_k28 (args_k28.svs (x1,())) (mem_k28.mem ()) K = tree_k28 F_k51 x1 (fun r=>outsRun outs_k28 r K):=by kernel_rfl
noncomputable def C_k28:Con:=⟨args_k28,mem_k28,outs_k28,F_k28⟩
theorem k_k28:Known Try.prog fd_k28 [(48,C_k51)] []:=known_of mixT (by kernel_rfl) ⟨ok_k51,trivial⟩ trivial
theorem fn_k28:FnOK Try.prog an_k28 13 Try.f13 fd_k28:=fnOK (by kernel_rfl) (by kernel_rfl) (by kernel_rfl)
theorem ok_k28:ConOK Try.prog 13 C_k28:=con_of k_k28 (byRef:=br_k28) fn_k28 rc_k28 args_k28 mem_k28 outs_k28 (fun a b K=>tree_k28 F_k51 a.1 K) (fun a b=>h_k28 F_k51 _ _) (fun a b K=>n_k28 F_k51 _ K)
def an_k29:Nat→LAnn:=fun n=>(find n []).getD ⟨0,[],[],[],[]⟩
noncomputable def fd_k29:FD:=fdOf Try.prog an_k29 Try.f21
def br_k29:FuncId→CC:=fun f=>⟨([]:List Nat).contains f,(find f []).getD [],(find f []).getD []⟩
def rc_k29:RC:=⟨true,[(1,9,9,.cons .str .nil)],[]⟩
theorem h_k29 x1 x2 x3 x4 x5 x6 x7 x8 x9 x10 {α:Type} (K:SV→Mem→Option α):callBody (table [] []) br_k29 rc_k29 fd_k29 (args_k29.svs ()) (mem_k29.mem ((x1,x2,x3,()),x4,x5,x6,x7,x8,x9,x10,())) K = tree_k29 x1 x2 x3 x4 x5 x6 x7 x8 x9 x10 (fun r=>outsRun routs_k29 r K):=by kernel_rfl
noncomputable def C_k29:Con:=⟨args_k29,mem_k29,outs_k29,F_k29⟩
theorem k_k29:Known Try.prog fd_k29 [] []:=known_of mixT (by kernel_rfl) trivial trivial
theorem fn_k29:FnOK Try.prog an_k29 21 Try.f21 fd_k29:=fnOK (by kernel_rfl) (by kernel_rfl) (by kernel_rfl)
noncomputable def CR_k29:Con:=⟨args_k29,mem_k29,routs_k29,R_k29⟩
theorem okr_k29:ConOK Try.prog 21 CR_k29:=con_of k_k29 (byRef:=br_k29) fn_k29 rc_k29 args_k29 mem_k29 routs_k29 (fun a b K=>tree_k29 b.1.1 b.1.2.1 b.1.2.2.1 b.2.1 b.2.2.1 b.2.2.2.1 b.2.2.2.2.1 b.2.2.2.2.2.1 b.2.2.2.2.2.2.1 b.2.2.2.2.2.2.2.1 K) (fun a b=>h_k29 _ _ _ _ _ _ _ _ _ _ _) (fun a b K=>n_k29 _ _ _ _ _ _ _ _ _ _ K)
theorem ok_k29:ConOK Try.prog 21 C_k29:=con_reads okr_k29 (by rfl) reads_k29
def an_k30:Nat→LAnn:=fun n=>(find n []).getD ⟨0,[],[],[],[]⟩
noncomputable def fd_k30:FD:=fdOf Try.prog an_k30 Try.f79
def br_k30:FuncId→CC:=fun f=>⟨([]:List Nat).contains f,(find f []).getD [],(find f []).getD []⟩
def rc_k30:RC:=⟨false,[(1,9,9,.cons .str .nil)],[]⟩
theorem h_k30 x1 x2 x3 x4 x5 x6 x7 x8 x9 x10 {α:Type} (K:SV→Mem→Option α):callBody (table [] []) br_k30 rc_k30 fd_k30 (args_k30.svs ()) (mem_k30.mem ((x1,x2,x3,()),x4,x5,x6,x7,x8,x9,x10,())) K = tree_k30 x1 x2 x3 x4 x5 x6 x7 x8 x9 x10 (fun r=>outsRun outs_k30 r K):=by kernel_rfl
noncomputable def C_k30:Con:=⟨args_k30,mem_k30,outs_k30,F_k30⟩
theorem k_k30:Known Try.prog fd_k30 [] []:=known_of mixT (by kernel_rfl) trivial trivial
theorem fn_k30:FnOK Try.prog an_k30 79 Try.f79 fd_k30:=fnOK (by kernel_rfl) (by kernel_rfl) (by kernel_rfl)
theorem ok_k30:ConOK Try.prog 79 C_k30:=con_of k_k30 (byRef:=br_k30) fn_k30 rc_k30 args_k30 mem_k30 outs_k30 (fun a b K=>tree_k30 b.1.1 b.1.2.1 b.1.2.2.1 b.2.1 b.2.2.1 b.2.2.2.1 b.2.2.2.2.1 b.2.2.2.2.2.1 b.2.2.2.2.2.2.1 b.2.2.2.2.2.2.2.1 K) (fun a b=>h_k30 _ _ _ _ _ _ _ _ _ _ _) (fun a b K=>n_k30 _ _ _ _ _ _ _ _ _ _ K)
def an_k31:Nat→LAnn:=fun n=>(find n []).getD ⟨0,[],[],[],[]⟩
noncomputable def fd_k31:FD:=fdOf Try.prog an_k31 Try.f54
def br_k31:FuncId→CC:=fun f=>⟨([79]:List Nat).contains f,(find f [(79,[0,1,2,3,4,5,6,7,8,9,10,11])]).getD [],(find f [(79,[(0,9,9,.cons .str .nil)])]).getD []⟩
def rc_k31:RC:=⟨false,[(1,9,9,.cons .str .nil)],[]⟩
theorem h_k31 (F_k30:B_k30) x1 x2 x3 x4 x5 x6 x7 x8 x9 x10 x11 {α:Type} (K:SV→Mem→Option α):callBody (table [(79,⟨args_k30,mem_k30,outs_k30,F_k30⟩)] []) br_k31 rc_k31 fd_k31 (args_k31.svs (x1,())) (mem_k31.mem ((x2,x3,x4,()),x5,x6,x7,x8,x9,x10,x11,())) K = tree_k31 F_k30 x1 x2 x3 x4 x5 x6 x7 x8 x9 x10 x11 (fun r=>outsRun outs_k31 r K):=by kernel_rfl
noncomputable def C_k31:Con:=⟨args_k31,mem_k31,outs_k31,F_k31⟩
theorem k_k31:Known Try.prog fd_k31 [(79,C_k30)] []:=known_of mixT (by kernel_rfl) ⟨ok_k30,trivial⟩ trivial
theorem fn_k31:FnOK Try.prog an_k31 54 Try.f54 fd_k31:=fnOK (by kernel_rfl) (by kernel_rfl) (by kernel_rfl)
theorem ok_k31:ConOK Try.prog 54 C_k31:=con_of k_k31 (byRef:=br_k31) fn_k31 rc_k31 args_k31 mem_k31 outs_k31 (fun a b K=>tree_k31 F_k30 a.1 b.1.1 b.1.2.1 b.1.2.2.1 b.2.1 b.2.2.1 b.2.2.2.1 b.2.2.2.2.1 b.2.2.2.2.2.1 b.2.2.2.2.2.2.1 b.2.2.2.2.2.2.2.1 K) (fun a b=>h_k31 F_k30 _ _ _ _ _ _ _ _ _ _ _ _) (fun a b K=>n_k31 F_k30 _ _ _ _ _ _ _ _ _ _ _ K)
def an_k32:Nat→LAnn:=fun n=>(find n []).getD ⟨0,[],[],[],[]⟩
noncomputable def fd_k32:FD:=fdOf Try.prog an_k32 Try.f26
def br_k32:FuncId→CC:=fun f=>⟨([]:List Nat).contains f,(find f []).getD [],(find f []).getD []⟩
def rc_k32:RC:=⟨false,[(0,9,9,.cons .str .nil)],[]⟩
theorem h_k32 x1 x2 x3 x4 x5 x6 x7 x8 x9 x10 x11 {α:Type} (K:SV→Mem→Option α):callBody (table [] []) br_k32 rc_k32 fd_k32 (args_k32.svs (x1,())) (mem_k32.mem ((x2,x3,x4,()),x5,x6,x7,x8,x9,x10,x11,())) K = tree_k32 x1 x2 x3 x4 x5 x6 x7 x8 x9 x10 x11 (fun r=>outsRun outs_k32 r K):=by kernel_rfl
noncomputable def C_k32:Con:=⟨args_k32,mem_k32,outs_k32,F_k32⟩
theorem k_k32:Known Try.prog fd_k32 [] []:=known_of mixT (by kernel_rfl) trivial trivial
theorem fn_k32:FnOK Try.prog an_k32 26 Try.f26 fd_k32:=fnOK (by kernel_rfl) (by kernel_rfl) (by kernel_rfl)
theorem ok_k32:ConOK Try.prog 26 C_k32:=con_of k_k32 (byRef:=br_k32) fn_k32 rc_k32 args_k32 mem_k32 outs_k32 (fun a b K=>tree_k32 a.1 b.1.1 b.1.2.1 b.1.2.2.1 b.2.1 b.2.2.1 b.2.2.2.1 b.2.2.2.2.1 b.2.2.2.2.2.1 b.2.2.2.2.2.2.1 b.2.2.2.2.2.2.2.1 K) (fun a b=>h_k32 _ _ _ _ _ _ _ _ _ _ _ _) (fun a b K=>n_k32 _ _ _ _ _ _ _ _ _ _ _ K)
end Go.Proofs.Ytljfdfghagiblaa.S2
