/- The program's functions come to their plain forms,by program. -/
import Derived.Test.YtljfdfghagiblaaGdisk
import Derived.Test.YtljfdfghagiblaaHbase
set_option maxRecDepth 100000
set_option maxHeartbeats 0
set_option linter.unusedVariables false
set_option linter.unusedSimpArgs false
namespace Go.Proofs.Ytljfdfghagiblaa.S2
open Go
noncomputable def C_k76:Con:=⟨args_k76,mem_k76,outs_k76,F_k76⟩
theorem ok_k76:ConOK Try.prog 82 C_k76:=by
  rintro ⟨(s:ByteArray),(n:Int),⟨⟩⟩ ⟨⟩ r hr
  have hr:cond (decide (0≤n∧n≤9223372036854775807∧s.size * n.toNat≤140737488355328)) (some (⟨(Go.Lib.repeatL s.data.toList n.toNat).toArray⟩,())) none = some r:=hr
  by_cases hc:0≤n∧n≤9223372036854775807∧s.size * n.toNat≤140737488355328
  · rw [decide_eq_true hc] at hr
    cases hr
    refine callOK_of_below Try.func82 (by kernel_rfl) (by kernel_rfl) fun w A β vs hx=>?_
    obtain ⟨v1,vs1,rfl,hv1,v2,vs2,rfl,hv2,hv3⟩:=hx
    have hv1:v1 = .string s:=hv1
    have hv2:v2 = .int .i64 n:=hv2
    have hv3:vs2 = []:=hv3
    subst hv1 hv2 hv3
    have hn:n = (n.toNat:Int):=by omega
    have hcall:=strings_Repeat s n.toNat w (by omega) hc.2.2
    rw [← hn] at hcall
    exact hcall.mono fun e w' ⟨he,hw⟩=>⟨_,he,hw,fun A' β'=>rfl⟩
  · rw [decide_eq_false hc] at hr
    cases hr
def an_k6:Nat→LAnn:=fun n=>(find n []).getD ⟨0,[],[],[],[]⟩
noncomputable def fd_k6:FD:=fdOf Try.prog an_k6 Try.f83
def br_k6:FuncId→CC:=fun f=>⟨([]:List Nat).contains f,(find f []).getD [],(find f []).getD []⟩
def rc_k6:RC:=⟨true,[(1,2,196,.cons (.int .i64) (.cons .str .nil))],[]⟩
theorem h_k6 x1 x2 x3 {α:Type} (K:SV→Mem→Option α):callBody (table [] []) br_k6 rc_k6 fd_k6 (args_k6.svs ()) (mem_k6.mem ((x1,()),x2,x3,())) K = tree_k6 x1 x2 x3 (fun r=>outsRun routs_k6 r K):=by kernel_rfl
noncomputable def C_k6:Con:=⟨args_k6,mem_k6,outs_k6,F_k6⟩
theorem k_k6:Known Try.prog fd_k6 [] []:=known_of mixT (by kernel_rfl) trivial trivial
theorem fn_k6:FnOK Try.prog an_k6 83 Try.f83 fd_k6:=fnOK (by kernel_rfl) (by kernel_rfl) (by kernel_rfl)
noncomputable def CR_k6:Con:=⟨args_k6,mem_k6,routs_k6,R_k6⟩
theorem okr_k6:ConOK Try.prog 83 CR_k6:=con_of k_k6 (byRef:=br_k6) fn_k6 rc_k6 args_k6 mem_k6 routs_k6 (fun a b K=>tree_k6 b.1.1 b.2.1 b.2.2.1 K) (fun a b=>h_k6 _ _ _ _) (fun a b K=>n_k6 _ _ _ K)
theorem ok_k6:ConOK Try.prog 83 C_k6:=con_reads okr_k6 (by rfl) reads_k6
def an_k7:Nat→LAnn:=fun n=>(find n []).getD ⟨0,[],[],[],[]⟩
noncomputable def fd_k7:FD:=fdOf Try.prog an_k7 Try.f128
def br_k7:FuncId→CC:=fun f=>⟨([]:List Nat).contains f,(find f []).getD [],(find f []).getD []⟩
def rc_k7:RC:=⟨true,[(1,2,196,.cons (.int .i64) (.cons .str .nil))],[]⟩
theorem h_k7 x1 x2 x3 {α:Type} (K:SV→Mem→Option α):callBody (table [] []) br_k7 rc_k7 fd_k7 (args_k7.svs ()) (mem_k7.mem ((x1,()),x2,x3,())) K = tree_k7 x1 x2 x3 (fun r=>outsRun routs_k7 r K):=by kernel_rfl
noncomputable def C_k7:Con:=⟨args_k7,mem_k7,outs_k7,F_k7⟩
theorem k_k7:Known Try.prog fd_k7 [] []:=known_of mixT (by kernel_rfl) trivial trivial
theorem fn_k7:FnOK Try.prog an_k7 128 Try.f128 fd_k7:=fnOK (by kernel_rfl) (by kernel_rfl) (by kernel_rfl)
noncomputable def CR_k7:Con:=⟨args_k7,mem_k7,routs_k7,R_k7⟩
theorem okr_k7:ConOK Try.prog 128 CR_k7:=con_of k_k7 (byRef:=br_k7) fn_k7 rc_k7 args_k7 mem_k7 routs_k7 (fun a b K=>tree_k7 b.1.1 b.2.1 b.2.2.1 K) (fun a b=>h_k7 _ _ _ _) (fun a b K=>n_k7 _ _ _ K)
theorem ok_k7:ConOK Try.prog 128 C_k7:=con_reads okr_k7 (by rfl) reads_k7
def an_k9:Nat→LAnn:=fun n=>(find n []).getD ⟨0,[],[],[],[]⟩
noncomputable def fd_k9:FD:=fdOf Try.prog an_k9 Try.f126
def br_k9:FuncId→CC:=fun f=>⟨([]:List Nat).contains f,(find f []).getD [],(find f []).getD []⟩
def rc_k9:RC:=⟨true,[(1,2,196,.cons (.int .i64) (.cons .str .nil))],[]⟩
theorem h_k9 x1 x2 x3 x4 {α:Type} (K:SV→Mem→Option α):callBody (table [] []) br_k9 rc_k9 fd_k9 (args_k9.svs (x1,())) (mem_k9.mem ((x2,()),x3,x4,())) K = tree_k9 x1 x2 x3 x4 (fun r=>outsRun routs_k9 r K):=by kernel_rfl
noncomputable def C_k9:Con:=⟨args_k9,mem_k9,outs_k9,F_k9⟩
theorem k_k9:Known Try.prog fd_k9 [] []:=known_of mixT (by kernel_rfl) trivial trivial
theorem fn_k9:FnOK Try.prog an_k9 126 Try.f126 fd_k9:=fnOK (by kernel_rfl) (by kernel_rfl) (by kernel_rfl)
noncomputable def CR_k9:Con:=⟨args_k9,mem_k9,routs_k9,R_k9⟩
theorem okr_k9:ConOK Try.prog 126 CR_k9:=con_of k_k9 (byRef:=br_k9) fn_k9 rc_k9 args_k9 mem_k9 routs_k9 (fun a b K=>tree_k9 a.1 b.1.1 b.2.1 b.2.2.1 K) (fun a b=>h_k9 _ _ _ _ _) (fun a b K=>n_k9 _ _ _ _ K)
theorem ok_k9:ConOK Try.prog 126 C_k9:=con_reads okr_k9 (by rfl) reads_k9
def an_k5:Nat→LAnn:=fun n=>(find n []).getD ⟨0,[],[],[],[]⟩
noncomputable def fd_k5:FD:=fdOf Try.prog an_k5 Try.f118
def br_k5:FuncId→CC:=fun f=>⟨([126]:List Nat).contains f,(find f [(126,[0,1,2,3,4,5,6,7,8,9,10,11])]).getD [],(find f [(126,[(0,2,196,.cons (.int .i64) (.cons .str .nil))])]).getD []⟩
def rc_k5:RC:=⟨true,[(2,2,196,.cons (.int .i64) (.cons .str .nil))],[]⟩
theorem h_k5 (F_k9:B_k9) x1 x2 x3 x4 {α:Type} (K:SV→Mem→Option α):callBody (table [(126,⟨args_k9,mem_k9,outs_k9,F_k9⟩)] []) br_k5 rc_k5 fd_k5 (args_k5.svs (x1,())) (mem_k5.mem ((x2,()),x3,x4,())) K = tree_k5 F_k9 x1 x2 x3 x4 (fun r=>outsRun routs_k5 r K):=by kernel_rfl
noncomputable def C_k5:Con:=⟨args_k5,mem_k5,outs_k5,F_k5⟩
theorem k_k5:Known Try.prog fd_k5 [(126,C_k9)] []:=known_of mixT (by kernel_rfl) ⟨ok_k9,trivial⟩ trivial
theorem fn_k5:FnOK Try.prog an_k5 118 Try.f118 fd_k5:=fnOK (by kernel_rfl) (by kernel_rfl) (by kernel_rfl)
noncomputable def CR_k5:Con:=⟨args_k5,mem_k5,routs_k5,R_k5⟩
theorem okr_k5:ConOK Try.prog 118 CR_k5:=con_of k_k5 (byRef:=br_k5) fn_k5 rc_k5 args_k5 mem_k5 routs_k5 (fun a b K=>tree_k5 F_k9 a.1 b.1.1 b.2.1 b.2.2.1 K) (fun a b=>h_k5 F_k9 _ _ _ _ _) (fun a b K=>n_k5 F_k9 _ _ _ _ K)
theorem ok_k5:ConOK Try.prog 118 C_k5:=con_reads okr_k5 (by rfl) reads_k5
def an_k4:Nat→LAnn:=fun n=>(find n [(2,⟨2,[0,1,6],[],[4,5,6,13,14,15,16,17,18,19,20,21,22,23,24,25,26,27,28,29,30,31,32,33,34],[0,1,4,5]⟩)]).getD ⟨0,[],[],[],[]⟩
noncomputable def fd_k4:FD:=fdOf Try.prog an_k4 Try.f107
def br_k4:FuncId→CC:=fun f=>⟨([118]:List Nat).contains f,(find f [(118,[0,1,2,3,4,5,6,7,8,9,10,11])]).getD [],(find f [(118,[(0,2,196,.cons (.int .i64) (.cons .str .nil))])]).getD []⟩
def rc_k4:RC:=⟨true,[(2,2,196,.cons (.int .i64) (.cons .str .nil))],[]⟩
theorem hl_k4_2 (F_k5:B_k5) (x1:Int) (x2:Int) (x3:Int) (x4:Yb) (x5:Y6) {α:Type} (kn:St→Option α) (K:Out→St→Option α):round (table [(118,⟨args_k5,mem_k5,outs_k5,F_k5⟩)] []) br_k4 (an_k4 2) (fd_k4.loop 2) kn ⟨ltmps_k4_2.svs (x1,x2,()),lmem_k4_2.mem ((x3,()),x4,x5,())⟩ K = ltree_k4_2 x1 x2 x3 x4 x5 (fun a b=>kn ⟨ltmps_k4_2.svs a,lmem_k4_2.mem b⟩) (fun r=>outLsRun louts_k4_2 r K):=by kernel_rfl
noncomputable def D_k4_2:LCon:=⟨ltmps_k4_2,lmem_k4_2,louts_k4_2,L_k4_2⟩
theorem kl_k4_2:Known Try.prog fd_k4 [(118,C_k5)] []:=known_of mixT (by kernel_rfl) ⟨ok_k5,trivial⟩ trivial
theorem okl_k4_2:LConOK Try.prog (fd_k4.loop 2) D_k4_2:=lcon_of kl_k4_2 (byRef:=br_k4) (lan:=an_k4 2) (id:=2) (by kernel_rfl) ltmps_k4_2 lmem_k4_2 louts_k4_2 (fun a b kn kr=>ltree_k4_2 a.1 a.2.1 b.1.1 b.2.1 b.2.2.1 kn kr) (fun a b=>hl_k4_2 F_k5 a.1 a.2.1 b.1.1 b.2.1 b.2.2.1 _ _) (fun a b kn kr=>nl_k4_2 a.1 a.2.1 b.1.1 b.2.1 b.2.2.1 kn kr)
theorem h_k4 (F_k5:B_k5) (L_k4_2:LT_k4_2→LM_k4_2→Option LO_k4_2) x1 x2 x3 x4 {α:Type} (K:SV→Mem→Option α):callBody (table [(118,⟨args_k5,mem_k5,outs_k5,F_k5⟩)] [(2,⟨ltmps_k4_2,lmem_k4_2,louts_k4_2,L_k4_2⟩)]) br_k4 rc_k4 fd_k4 (args_k4.svs (x1,())) (mem_k4.mem ((x2,()),x3,x4,())) K = tree_k4 F_k5 L_k4_2 x1 x2 x3 x4 (fun r=>outsRun routs_k4 r K):=by kernel_rfl
noncomputable def C_k4:Con:=⟨args_k4,mem_k4,outs_k4,F_k4⟩
theorem k_k4:Known Try.prog fd_k4 [(118,C_k5)] [(2,D_k4_2)]:=known_of mixT (by kernel_rfl) ⟨ok_k5,trivial⟩ ⟨okl_k4_2,trivial⟩
theorem fn_k4:FnOK Try.prog an_k4 107 Try.f107 fd_k4:=fnOK (by kernel_rfl) (by kernel_rfl) (by kernel_rfl)
noncomputable def CR_k4:Con:=⟨args_k4,mem_k4,routs_k4,R_k4⟩
theorem okr_k4:ConOK Try.prog 107 CR_k4:=con_of k_k4 (byRef:=br_k4) fn_k4 rc_k4 args_k4 mem_k4 routs_k4 (fun a b K=>tree_k4 F_k5 L_k4_2 a.1 b.1.1 b.2.1 b.2.2.1 K) (fun a b=>h_k4 F_k5 L_k4_2 _ _ _ _ _) (fun a b K=>n_k4 F_k5 L_k4_2 _ _ _ _ K)
theorem ok_k4:ConOK Try.prog 107 C_k4:=con_reads okr_k4 (by rfl) reads_k4
def an_k3:Nat→LAnn:=fun n=>(find n []).getD ⟨0,[],[],[],[]⟩
noncomputable def fd_k3:FD:=fdOf Try.prog an_k3 Try.f130
def br_k3:FuncId→CC:=fun f=>⟨([]:List Nat).contains f,(find f []).getD [],(find f []).getD []⟩
def rc_k3:RC:=⟨true,[],[]⟩
theorem h_k3 x1 x2 x3 x4 {α:Type} (K:SV→Mem→Option α):callBody (table [] []) br_k3 rc_k3 fd_k3 (args_k3.svs (x1,())) (mem_k3.mem ((),(x2,()),x3,x4,())) K = tree_k3 x1 x2 x3 x4 (fun r=>outsRun routs_k3 r K):=by kernel_rfl
noncomputable def C_k3:Con:=⟨args_k3,mem_k3,outs_k3,F_k3⟩
theorem k_k3:Known Try.prog fd_k3 [] []:=known_of mixT (by kernel_rfl) trivial trivial
theorem fn_k3:FnOK Try.prog an_k3 130 Try.f130 fd_k3:=fnOK (by kernel_rfl) (by kernel_rfl) (by kernel_rfl)
noncomputable def CR_k3:Con:=⟨args_k3,mem_k3,routs_k3,R_k3⟩
theorem okr_k3:ConOK Try.prog 130 CR_k3:=con_of k_k3 (byRef:=br_k3) fn_k3 rc_k3 args_k3 mem_k3 routs_k3 (fun a b K=>tree_k3 a.1 b.2.1.1 b.2.2.1 b.2.2.2.1 K) (fun a b=>h_k3 _ _ _ _ _) (fun a b K=>n_k3 _ _ _ _ K)
theorem ok_k3:ConOK Try.prog 130 C_k3:=con_reads okr_k3 (by rfl) reads_k3
def an_k1:Nat→LAnn:=fun n=>(find n []).getD ⟨0,[],[],[],[]⟩
noncomputable def fd_k1:FD:=fdOf Try.prog an_k1 Try.f93
def br_k1:FuncId→CC:=fun f=>⟨([]:List Nat).contains f,(find f []).getD [],(find f []).getD []⟩
def rc_k1:RC:=⟨true,[],[]⟩
theorem h_k1 x1 x2 {α:Type} (K:SV→Mem→Option α):callBody (table [] []) br_k1 rc_k1 fd_k1 (args_k1.svs (x1,())) (mem_k1.mem ((x2,()),())) K = tree_k1 x1 x2 (fun r=>outsRun routs_k1 r K):=by kernel_rfl
noncomputable def C_k1:Con:=⟨args_k1,mem_k1,outs_k1,F_k1⟩
theorem k_k1:Known Try.prog fd_k1 [] []:=known_of mixT (by kernel_rfl) trivial trivial
theorem fn_k1:FnOK Try.prog an_k1 93 Try.f93 fd_k1:=fnOK (by kernel_rfl) (by kernel_rfl) (by kernel_rfl)
noncomputable def CR_k1:Con:=⟨args_k1,mem_k1,routs_k1,R_k1⟩
theorem okr_k1:ConOK Try.prog 93 CR_k1:=con_of k_k1 (byRef:=br_k1) fn_k1 rc_k1 args_k1 mem_k1 routs_k1 (fun a b K=>tree_k1 a.1 b.1.1 K) (fun a b=>h_k1 _ _ _) (fun a b K=>n_k1 _ _ K)
theorem ok_k1:ConOK Try.prog 93 C_k1:=con_reads okr_k1 (by rfl) reads_k1
def an_k10:Nat→LAnn:=fun n=>(find n [(1,⟨1,[0,1,10,11,12],[],[4,5,6,12,13,14,15,16,17,18,19,20,21,22,23,24,25,26,27,28,29,30,31,32,33,34,35,36,37,38,39,40,41,42,43,44,45,46,47,48],[0]⟩)]).getD ⟨0,[],[],[],[]⟩
noncomputable def fd_k10:FD:=fdOf Try.prog an_k10 Try.f92
def br_k10:FuncId→CC:=fun f=>⟨([130]:List Nat).contains f,(find f [(130,[0,1,2,3,4,5,6,7,8,9,10,11])]).getD [],(find f []).getD []⟩
def rc_k10:RC:=⟨false,[(0,2,196,.cons (.int .i64) (.cons .str .nil))],[(0,2,3)]⟩
theorem hl_k10_1 (F_k3:B_k3) (x1:Int) (x2:Int) (x3:Int) (x4:Yb) (x5:Y6) {α:Type} (kn:St→Option α) (K:Out→St→Option α):round (table [(130,⟨args_k3,mem_k3,outs_k3,F_k3⟩)] []) br_k10 (an_k10 1) (fd_k10.loop 1) kn ⟨ltmps_k10_1.svs ((),x1,x2,()),lmem_k10_1.mem ((x3,()),(),x4,x5,())⟩ K = ltree_k10_1 F_k3 x1 x2 x3 x4 x5 (fun a b=>kn ⟨ltmps_k10_1.svs a,lmem_k10_1.mem b⟩) (fun r=>outLsRun louts_k10_1 r K):=by kernel_rfl
noncomputable def D_k10_1:LCon:=⟨ltmps_k10_1,lmem_k10_1,louts_k10_1,L_k10_1⟩
theorem kl_k10_1:Known Try.prog fd_k10 [(130,C_k3)] []:=known_of mixT (by kernel_rfl) ⟨ok_k3,trivial⟩ trivial
theorem okl_k10_1:LConOK Try.prog (fd_k10.loop 1) D_k10_1:=lcon_of kl_k10_1 (byRef:=br_k10) (lan:=an_k10 1) (id:=1) (by kernel_rfl) ltmps_k10_1 lmem_k10_1 louts_k10_1 (fun a b kn kr=>ltree_k10_1 F_k3 a.2.1 a.2.2.1 b.1.1 b.2.2.1 b.2.2.2.1 kn kr) (fun a b=>hl_k10_1 F_k3 a.2.1 a.2.2.1 b.1.1 b.2.2.1 b.2.2.2.1 _ _) (fun a b kn kr=>nl_k10_1 F_k3 a.2.1 a.2.2.1 b.1.1 b.2.2.1 b.2.2.2.1 kn kr)
theorem h_k10 (F_k3:B_k3) (L_k10_1:LT_k10_1→LM_k10_1→Option LO_k10_1) x1 x2 x3 {α:Type} (K:SV→Mem→Option α):callBody (table [(130,⟨args_k3,mem_k3,outs_k3,F_k3⟩)] [(1,⟨ltmps_k10_1,lmem_k10_1,louts_k10_1,L_k10_1⟩)]) br_k10 rc_k10 fd_k10 (args_k10.svs ((),())) (mem_k10.mem ((x1,()),(),x2,x3,())) K = tree_k10 L_k10_1 x1 x2 x3 (fun r=>outsRun outs_k10 r K):=by kernel_rfl
noncomputable def C_k10:Con:=⟨args_k10,mem_k10,outs_k10,F_k10⟩
theorem k_k10:Known Try.prog fd_k10 [(130,C_k3)] [(1,D_k10_1)]:=known_of mixT (by kernel_rfl) ⟨ok_k3,trivial⟩ ⟨okl_k10_1,trivial⟩
theorem fn_k10:FnOK Try.prog an_k10 92 Try.f92 fd_k10:=fnOK (by kernel_rfl) (by kernel_rfl) (by kernel_rfl)
theorem ok_k10:ConOK Try.prog 92 C_k10:=con_of k_k10 (byRef:=br_k10) fn_k10 rc_k10 args_k10 mem_k10 outs_k10 (fun a b K=>tree_k10 L_k10_1 b.1.1 b.2.2.1 b.2.2.2.1 K) (fun a b=>h_k10 F_k3 L_k10_1 _ _ _ _) (fun a b K=>n_k10 L_k10_1 _ _ _ K)
def an_k11:Nat→LAnn:=fun n=>(find n [(1,⟨1,[0,1,10,11,12],[],[4,5,6,12,13,14,15,16,17,18,19,20,21,22,23,24,25,26,27,28,29,30,31,32,33,34,35,36,37,38,39,40,41,42,43,44,45,46,47,48],[0]⟩)]).getD ⟨0,[],[],[],[]⟩
noncomputable def fd_k11:FD:=fdOf Try.prog an_k11 Try.f92
def br_k11:FuncId→CC:=fun f=>⟨([93]:List Nat).contains f,(find f [(93,[0,1,2,3,4,5,6,7,8,9,10,11])]).getD [],(find f []).getD []⟩
def rc_k11:RC:=⟨false,[(0,2,196,.cons (.int .i64) (.cons .str .nil))],[(0,2,3)]⟩
theorem hl_k11_1 (F_k1:B_k1) (x1:Int) (x2:Int) (x3:Int) (x4:List Int) (x5:Yb) (x6:Y6) {α:Type} (kn:St→Option α) (K:Out→St→Option α):round (table [(93,⟨args_k1,mem_k1,outs_k1,F_k1⟩)] []) br_k11 (an_k11 1) (fd_k11.loop 1) kn ⟨ltmps_k11_1.svs ((),x1,x2,()),lmem_k11_1.mem ((x3,()),(x4,()),x5,x6,())⟩ K = ltree_k11_1 F_k1 x1 x2 x3 x4 x5 x6 (fun a b=>kn ⟨ltmps_k11_1.svs a,lmem_k11_1.mem b⟩) (fun r=>outLsRun louts_k11_1 r K):=by kernel_rfl
noncomputable def D_k11_1:LCon:=⟨ltmps_k11_1,lmem_k11_1,louts_k11_1,L_k11_1⟩
theorem kl_k11_1:Known Try.prog fd_k11 [(93,C_k1)] []:=known_of mixT (by kernel_rfl) ⟨ok_k1,trivial⟩ trivial
theorem okl_k11_1:LConOK Try.prog (fd_k11.loop 1) D_k11_1:=lcon_of kl_k11_1 (byRef:=br_k11) (lan:=an_k11 1) (id:=1) (by kernel_rfl) ltmps_k11_1 lmem_k11_1 louts_k11_1 (fun a b kn kr=>ltree_k11_1 F_k1 a.2.1 a.2.2.1 b.1.1 b.2.1.1 b.2.2.1 b.2.2.2.1 kn kr) (fun a b=>hl_k11_1 F_k1 a.2.1 a.2.2.1 b.1.1 b.2.1.1 b.2.2.1 b.2.2.2.1 _ _) (fun a b kn kr=>nl_k11_1 F_k1 a.2.1 a.2.2.1 b.1.1 b.2.1.1 b.2.2.1 b.2.2.2.1 kn kr)
theorem h_k11 (F_k1:B_k1) (L_k11_1:LT_k11_1→LM_k11_1→Option LO_k11_1) x1 x2 x3 x4 {α:Type} (K:SV→Mem→Option α):callBody (table [(93,⟨args_k1,mem_k1,outs_k1,F_k1⟩)] [(1,⟨ltmps_k11_1,lmem_k11_1,louts_k11_1,L_k11_1⟩)]) br_k11 rc_k11 fd_k11 (args_k11.svs ((),())) (mem_k11.mem ((x1,()),(x2,()),x3,x4,())) K = tree_k11 L_k11_1 x1 x2 x3 x4 (fun r=>outsRun outs_k11 r K):=by kernel_rfl
noncomputable def C_k11:Con:=⟨args_k11,mem_k11,outs_k11,F_k11⟩
theorem k_k11:Known Try.prog fd_k11 [(93,C_k1)] [(1,D_k11_1)]:=known_of mixT (by kernel_rfl) ⟨ok_k1,trivial⟩ ⟨okl_k11_1,trivial⟩
theorem fn_k11:FnOK Try.prog an_k11 92 Try.f92 fd_k11:=fnOK (by kernel_rfl) (by kernel_rfl) (by kernel_rfl)
theorem ok_k11:ConOK Try.prog 92 C_k11:=con_of k_k11 (byRef:=br_k11) fn_k11 rc_k11 args_k11 mem_k11 outs_k11 (fun a b K=>tree_k11 L_k11_1 b.1.1 b.2.1.1 b.2.2.1 b.2.2.2.1 K) (fun a b=>h_k11 F_k1 L_k11_1 _ _ _ _ _) (fun a b K=>n_k11 L_k11_1 _ _ _ _ K)
def an_k2:Nat→LAnn:=fun n=>(find n []).getD ⟨0,[],[],[],[]⟩
noncomputable def fd_k2:FD:=fdOf Try.prog an_k2 Try.f124
def br_k2:FuncId→CC:=fun f=>⟨([92]:List Nat).contains f,(find f [(92,[0,1,2,3,4,5,6,7,8,9,10,11])]).getD [],(find f [(92,[(0,2,196,.cons (.int .i64) (.cons .str .nil))])]).getD []⟩
def rc_k2:RC:=⟨false,[(0,2,196,.cons (.int .i64) (.cons .str .nil))],[(0,2,2)]⟩
theorem h_k2 (F_k10:B_k10) (F_k11:B_k11) x1 x2 x3 {α:Type} (K:SV→Mem→Option α):callBody (table [(92,⟨args_k10,mem_k10,outs_k10,F_k10⟩),(92,⟨args_k11,mem_k11,outs_k11,F_k11⟩)] []) br_k2 rc_k2 fd_k2 (args_k2.svs ()) (mem_k2.mem ((x1,()),x2,x3,())) K = tree_k2 F_k10 x1 x2 x3 (fun r=>outsRun outs_k2 r K):=by kernel_rfl
noncomputable def C_k2:Con:=⟨args_k2,mem_k2,outs_k2,F_k2⟩
theorem k_k2:Known Try.prog fd_k2 [(92,C_k10),(92,C_k11)] []:=known_of mixT (by kernel_rfl) ⟨ok_k10,ok_k11,trivial⟩ trivial
theorem fn_k2:FnOK Try.prog an_k2 124 Try.f124 fd_k2:=fnOK (by kernel_rfl) (by kernel_rfl) (by kernel_rfl)
theorem ok_k2:ConOK Try.prog 124 C_k2:=con_of k_k2 (byRef:=br_k2) fn_k2 rc_k2 args_k2 mem_k2 outs_k2 (fun a b K=>tree_k2 F_k10 b.1.1 b.2.1 b.2.2.1 K) (fun a b=>h_k2 F_k10 F_k11 _ _ _ _) (fun a b K=>n_k2 F_k10 _ _ _ K)
def an_k0:Nat→LAnn:=fun n=>(find n []).getD ⟨0,[],[],[],[]⟩
noncomputable def fd_k0:FD:=fdOf Try.prog an_k0 Try.f74
def br_k0:FuncId→CC:=fun f=>⟨([92]:List Nat).contains f,(find f [(92,[0,1,2,3,4,5,6,7,8,9,10,11])]).getD [],(find f [(92,[(0,2,196,.cons (.int .i64) (.cons .str .nil))])]).getD []⟩
def rc_k0:RC:=⟨false,[(0,2,196,.cons (.int .i64) (.cons .str .nil))],[(0,2,2)]⟩
theorem h_k0 (F_k10:B_k10) (F_k11:B_k11) x1 x2 x3 x4 {α:Type} (K:SV→Mem→Option α):callBody (table [(92,⟨args_k10,mem_k10,outs_k10,F_k10⟩),(92,⟨args_k11,mem_k11,outs_k11,F_k11⟩)] []) br_k0 rc_k0 fd_k0 (args_k0.svs (x1,())) (mem_k0.mem ((x2,()),x3,x4,())) K = tree_k0 F_k11 x1 x2 x3 x4 (fun r=>outsRun outs_k0 r K):=by kernel_rfl
noncomputable def C_k0:Con:=⟨args_k0,mem_k0,outs_k0,F_k0⟩
theorem k_k0:Known Try.prog fd_k0 [(92,C_k10),(92,C_k11)] []:=known_of mixT (by kernel_rfl) ⟨ok_k10,ok_k11,trivial⟩ trivial
theorem fn_k0:FnOK Try.prog an_k0 74 Try.f74 fd_k0:=fnOK (by kernel_rfl) (by kernel_rfl) (by kernel_rfl)
theorem ok_k0:ConOK Try.prog 74 C_k0:=con_of k_k0 (byRef:=br_k0) fn_k0 rc_k0 args_k0 mem_k0 outs_k0 (fun a b K=>tree_k0 F_k11 a.1 b.1.1 b.2.1 b.2.2.1 K) (fun a b=>h_k0 F_k10 F_k11 _ _ _ _ _) (fun a b K=>n_k0 F_k11 _ _ _ _ K)
def an_k8:Nat→LAnn:=fun n=>(find n []).getD ⟨0,[],[],[],[]⟩
noncomputable def fd_k8:FD:=fdOf Try.prog an_k8 Try.f129
def br_k8:FuncId→CC:=fun f=>⟨([126]:List Nat).contains f,(find f [(126,[0,1,2,3,4,5,6,7,8,9,10,11])]).getD [],(find f [(126,[(0,2,196,.cons (.int .i64) (.cons .str .nil))])]).getD []⟩
def rc_k8:RC:=⟨false,[(1,2,196,.cons (.int .i64) (.cons .str .nil))],[(1,2,2)]⟩
theorem h_k8 (F_k9:B_k9) (F_k76:B_k76) x1 x2 x3 x4 x5 {α:Type} (K:SV→Mem→Option α):callBody (table [(126,⟨args_k9,mem_k9,outs_k9,F_k9⟩),(82,⟨args_k76,mem_k76,outs_k76,F_k76⟩)] []) br_k8 rc_k8 fd_k8 (args_k8.svs (x1,x2,())) (mem_k8.mem ((x3,()),x4,x5,())) K = tree_k8 F_k9 F_k76 x1 x2 x3 x4 x5 (fun r=>outsRun outs_k8 r K):=by kernel_rfl
noncomputable def C_k8:Con:=⟨args_k8,mem_k8,outs_k8,F_k8⟩
theorem k_k8:Known Try.prog fd_k8 [(126,C_k9),(82,C_k76)] []:=known_of mixT (by kernel_rfl) ⟨ok_k9,ok_k76,trivial⟩ trivial
theorem fn_k8:FnOK Try.prog an_k8 129 Try.f129 fd_k8:=fnOK (by kernel_rfl) (by kernel_rfl) (by kernel_rfl)
theorem ok_k8:ConOK Try.prog 129 C_k8:=con_of k_k8 (byRef:=br_k8) fn_k8 rc_k8 args_k8 mem_k8 outs_k8 (fun a b K=>tree_k8 F_k9 F_k76 a.1 a.2.1 b.1.1 b.2.1 b.2.2.1 K) (fun a b=>h_k8 F_k9 F_k76 _ _ _ _ _ _) (fun a b K=>n_k8 F_k9 F_k76 _ _ _ _ _ K)
def an_k12:Nat→LAnn:=fun n=>(find n [(5,⟨5,[1,6,24,25],[(.cell 1736 1,501,9,.cons .str .nil)],[25,26,27,28,29,30,31,32,33,34,35,36,37,38],[6]⟩)]).getD ⟨0,[],[],[],[]⟩
noncomputable def fd_k12:FD:=fdOf Try.prog an_k12 Try.f58
def br_k12:FuncId→CC:=fun f=>⟨([]:List Nat).contains f,(find f []).getD [],(find f []).getD []⟩
def rc_k12:RC:=⟨false,[(0,2,196,.cons (.int .i64) (.cons .str .nil))],[]⟩
theorem hl_k12_5 (F_k76:B_k76) (x1:Int) (x2:Int) (x3:Int) (x4:Yb) (x5:Int) {α:Type} (kn:St→Option α) (K:Out→St→Option α):round (table [(82,⟨args_k76,mem_k76,outs_k76,F_k76⟩)] []) br_k12 (an_k12 5) (fd_k12.loop 5) kn ⟨ltmps_k12_5.svs (x1,x2,x3,()),lmem_k12_5.mem (x4,(x5,()),())⟩ K = ltree_k12_5 F_k76 x1 x2 x3 x4 x5 (fun a b=>kn ⟨ltmps_k12_5.svs a,lmem_k12_5.mem b⟩) (fun r=>outLsRun louts_k12_5 r K):=by kernel_rfl
noncomputable def D_k12_5:LCon:=⟨ltmps_k12_5,lmem_k12_5,louts_k12_5,L_k12_5⟩
theorem kl_k12_5:Known Try.prog fd_k12 [(82,C_k76)] []:=known_of mixT (by kernel_rfl) ⟨ok_k76,trivial⟩ trivial
theorem okl_k12_5:LConOK Try.prog (fd_k12.loop 5) D_k12_5:=lcon_of kl_k12_5 (byRef:=br_k12) (lan:=an_k12 5) (id:=5) (by kernel_rfl) ltmps_k12_5 lmem_k12_5 louts_k12_5 (fun a b kn kr=>ltree_k12_5 F_k76 a.1 a.2.1 a.2.2.1 b.1 b.2.1.1 kn kr) (fun a b=>hl_k12_5 F_k76 a.1 a.2.1 a.2.2.1 b.1 b.2.1.1 _ _) (fun a b kn kr=>nl_k12_5 F_k76 a.1 a.2.1 a.2.2.1 b.1 b.2.1.1 kn kr)
theorem h_k12 (F_k76:B_k76) (L_k12_5:LT_k12_5→LM_k12_5→Option LO_k12_5) x1 x2 {α:Type} (K:SV→Mem→Option α):callBody (table [(82,⟨args_k76,mem_k76,outs_k76,F_k76⟩)] [(5,⟨ltmps_k12_5,lmem_k12_5,louts_k12_5,L_k12_5⟩)]) br_k12 rc_k12 fd_k12 (args_k12.svs (x1,x2,())) (mem_k12.mem ()) K = tree_k12 L_k12_5 x1 x2 (fun r=>outsRun outs_k12 r K):=by kernel_rfl
noncomputable def C_k12:Con:=⟨args_k12,mem_k12,outs_k12,F_k12⟩
theorem k_k12:Known Try.prog fd_k12 [(82,C_k76)] [(5,D_k12_5)]:=known_of mixT (by kernel_rfl) ⟨ok_k76,trivial⟩ ⟨okl_k12_5,trivial⟩
theorem fn_k12:FnOK Try.prog an_k12 58 Try.f58 fd_k12:=fnOK (by kernel_rfl) (by kernel_rfl) (by kernel_rfl)
theorem ok_k12:ConOK Try.prog 58 C_k12:=con_of k_k12 (byRef:=br_k12) fn_k12 rc_k12 args_k12 mem_k12 outs_k12 (fun a b K=>tree_k12 L_k12_5 a.1 a.2.1 K) (fun a b=>h_k12 F_k76 L_k12_5 _ _ _) (fun a b K=>n_k12 L_k12_5 _ _ K)
end Go.Proofs.Ytljfdfghagiblaa.S2
