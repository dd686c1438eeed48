/- The program's functions come to their plain forms, by program. -/
import Derived.Test.YtljfdfghagiblaaGmerkle0
import Derived.Test.YtljfdfghagiblaaHideal
import Derived.Test.YtljfdfghagiblaaHwire
set_option maxRecDepth 100000
set_option maxHeartbeats 0
set_option linter.unusedVariables false
set_option linter.unusedSimpArgs false
namespace Go.Proofs.Ytljfdfghagiblaa.S2
open Go
def an_merkle_Leaf : Nat → LAnn := fun n => (find n []).getD ⟨0, [], [], [], []⟩
noncomputable def fd_merkle_Leaf : FD := fdOf Try.prog an_merkle_Leaf Try.f33
def br_merkle_Leaf : FuncId → CC := fun f => ⟨([54] : List Nat).contains f, (find f [(54, [0, 1, 2, 3, 4, 5, 6, 7, 8, 9, 10, 11])]).getD [], (find f [(54, [(0, 9, 9, (.cons .str .nil))])]).getD []⟩
def rc_merkle_Leaf : RC := ⟨false, [(1, 9, 9, (.cons .str .nil))], []⟩
theorem h_merkle_Leaf (F_ideal_Oracle_Hash : A_ideal_Oracle_Hash → M_ideal_Oracle_Hash → Option O_ideal_Oracle_Hash) (x1 : ByteArray) (x2 : List Int) (x3 : Int) (x4 : Bool) (x5 : List (Int × Int)) (x6 : List (Int × Int)) (x7 : List (ByteArray × Int)) (x8 : List ((Int × ByteArray) × Int)) (x9 : List ((Int × Int × ByteArray × ByteArray) × Int)) (x10 : List ((Int × Int × Int × ByteArray) × Int)) (x11 : List ByteArray) {α : Type} (K : SV → Mem → Option α) : callBody (table [(54, ⟨args_ideal_Oracle_Hash, mem_ideal_Oracle_Hash, outs_ideal_Oracle_Hash, F_ideal_Oracle_Hash⟩)] []) br_merkle_Leaf rc_merkle_Leaf fd_merkle_Leaf (args_merkle_Leaf.svs (x1, ())) (mem_merkle_Leaf.mem ((x2, (x3, (x4, ()))), (x5, (x6, (x7, (x8, (x9, (x10, (x11, ()))))))))) K = tree_merkle_Leaf F_ideal_Oracle_Hash x1 x2 x3 x4 x5 x6 x7 x8 x9 x10 x11 (fun r => outsRun outs_merkle_Leaf r K) := by kernel_rfl
noncomputable def C_merkle_Leaf : Con := ⟨args_merkle_Leaf, mem_merkle_Leaf, outs_merkle_Leaf, F_merkle_Leaf⟩
theorem k_merkle_Leaf : Known Try.prog fd_merkle_Leaf [(54, C_ideal_Oracle_Hash)] [] := known_of mixT (by kernel_rfl) ⟨ok_ideal_Oracle_Hash, trivial⟩ trivial
theorem fn_merkle_Leaf : FnOK Try.prog an_merkle_Leaf 33 Try.f33 fd_merkle_Leaf := fnOK (by kernel_rfl) (by kernel_rfl) (by kernel_rfl)
theorem ok_merkle_Leaf : ConOK Try.prog 33 C_merkle_Leaf := con_of k_merkle_Leaf (byRef := br_merkle_Leaf) fn_merkle_Leaf rc_merkle_Leaf args_merkle_Leaf mem_merkle_Leaf outs_merkle_Leaf (fun a b K => tree_merkle_Leaf F_ideal_Oracle_Hash a.1 b.1.1 b.1.2.1 b.1.2.2.1 b.2.1 b.2.2.1 b.2.2.2.1 b.2.2.2.2.1 b.2.2.2.2.2.1 b.2.2.2.2.2.2.1 b.2.2.2.2.2.2.2.1 K) (fun a b => h_merkle_Leaf F_ideal_Oracle_Hash a.1 b.1.1 b.1.2.1 b.1.2.2.1 b.2.1 b.2.2.1 b.2.2.2.1 b.2.2.2.2.1 b.2.2.2.2.2.1 b.2.2.2.2.2.2.1 b.2.2.2.2.2.2.2.1 _) (fun a b K => n_merkle_Leaf F_ideal_Oracle_Hash a.1 b.1.1 b.1.2.1 b.1.2.2.1 b.2.1 b.2.2.1 b.2.2.2.1 b.2.2.2.2.1 b.2.2.2.2.2.1 b.2.2.2.2.2.2.1 b.2.2.2.2.2.2.2.1 K)

def an_merkle_Node : Nat → LAnn := fun n => (find n []).getD ⟨0, [], [], [], []⟩
noncomputable def fd_merkle_Node : FD := fdOf Try.prog an_merkle_Node Try.f35
def br_merkle_Node : FuncId → CC := fun f => ⟨([54] : List Nat).contains f, (find f [(54, [0, 1, 2, 3, 4, 5, 6, 7, 8, 9, 10, 11])]).getD [], (find f [(54, [(0, 9, 9, (.cons .str .nil))])]).getD []⟩
def rc_merkle_Node : RC := ⟨false, [(1, 9, 9, (.cons .str .nil))], []⟩
theorem h_merkle_Node (F_wire_PutUint : A_wire_PutUint → M_wire_PutUint → Option O_wire_PutUint) (F_ideal_Oracle_Hash : A_ideal_Oracle_Hash → M_ideal_Oracle_Hash → Option O_ideal_Oracle_Hash) (x1 : Int) (x2 : Int) (x3 : List Int) (x4 : Int) (x5 : Bool) (x6 : List (Int × Int)) (x7 : List (Int × Int)) (x8 : List (ByteArray × Int)) (x9 : List ((Int × ByteArray) × Int)) (x10 : List ((Int × Int × ByteArray × ByteArray) × Int)) (x11 : List ((Int × Int × Int × ByteArray) × Int)) (x12 : List ByteArray) {α : Type} (K : SV → Mem → Option α) : callBody (table [(56, ⟨args_wire_PutUint, mem_wire_PutUint, outs_wire_PutUint, F_wire_PutUint⟩), (54, ⟨args_ideal_Oracle_Hash, mem_ideal_Oracle_Hash, outs_ideal_Oracle_Hash, F_ideal_Oracle_Hash⟩)] []) br_merkle_Node rc_merkle_Node fd_merkle_Node (args_merkle_Node.svs (x1, (x2, ()))) (mem_merkle_Node.mem ((x3, (x4, (x5, ()))), (x6, (x7, (x8, (x9, (x10, (x11, (x12, ()))))))))) K = tree_merkle_Node F_wire_PutUint F_ideal_Oracle_Hash x1 x2 x3 x4 x5 x6 x7 x8 x9 x10 x11 x12 (fun r => outsRun outs_merkle_Node r K) := by kernel_rfl
noncomputable def C_merkle_Node : Con := ⟨args_merkle_Node, mem_merkle_Node, outs_merkle_Node, F_merkle_Node⟩
theorem k_merkle_Node : Known Try.prog fd_merkle_Node [(56, C_wire_PutUint), (54, C_ideal_Oracle_Hash)] [] := known_of mixT (by kernel_rfl) ⟨ok_wire_PutUint, ok_ideal_Oracle_Hash, trivial⟩ trivial
theorem fn_merkle_Node : FnOK Try.prog an_merkle_Node 35 Try.f35 fd_merkle_Node := fnOK (by kernel_rfl) (by kernel_rfl) (by kernel_rfl)
theorem ok_merkle_Node : ConOK Try.prog 35 C_merkle_Node := con_of k_merkle_Node (byRef := br_merkle_Node) fn_merkle_Node rc_merkle_Node args_merkle_Node mem_merkle_Node outs_merkle_Node (fun a b K => tree_merkle_Node F_wire_PutUint F_ideal_Oracle_Hash a.1 a.2.1 b.1.1 b.1.2.1 b.1.2.2.1 b.2.1 b.2.2.1 b.2.2.2.1 b.2.2.2.2.1 b.2.2.2.2.2.1 b.2.2.2.2.2.2.1 b.2.2.2.2.2.2.2.1 K) (fun a b => h_merkle_Node F_wire_PutUint F_ideal_Oracle_Hash a.1 a.2.1 b.1.1 b.1.2.1 b.1.2.2.1 b.2.1 b.2.2.1 b.2.2.2.1 b.2.2.2.2.1 b.2.2.2.2.2.1 b.2.2.2.2.2.2.1 b.2.2.2.2.2.2.2.1 _) (fun a b K => n_merkle_Node F_wire_PutUint F_ideal_Oracle_Hash a.1 a.2.1 b.1.1 b.1.2.1 b.1.2.2.1 b.2.1 b.2.2.1 b.2.2.2.1 b.2.2.2.2.1 b.2.2.2.2.2.1 b.2.2.2.2.2.2.1 b.2.2.2.2.2.2.2.1 K)

def an_merkle_joined : Nat → LAnn := fun n => (find n []).getD ⟨0, [], [], [], []⟩
noncomputable def fd_merkle_joined : FD := fdOf Try.prog an_merkle_joined Try.f52
def br_merkle_joined : FuncId → CC := fun f => ⟨([35] : List Nat).contains f, (find f [(35, [0, 1, 2, 3, 4, 5, 6, 7, 8, 9, 10, 11])]).getD [], (find f [(35, [(0, 9, 9, (.cons .str .nil))])]).getD []⟩
def rc_merkle_joined : RC := ⟨false, [(1, 9, 9, (.cons .str .nil))], []⟩
theorem h_merkle_joined (F_merkle_Node : A_merkle_Node → M_merkle_Node → Option O_merkle_Node) (x1 : Int) (x2 : Int) (x3 : Int) (x4 : List Int) (x5 : Int) (x6 : Bool) (x7 : List (Int × Int)) (x8 : List (Int × Int)) (x9 : List (ByteArray × Int)) (x10 : List ((Int × ByteArray) × Int)) (x11 : List ((Int × Int × ByteArray × ByteArray) × Int)) (x12 : List ((Int × Int × Int × ByteArray) × Int)) (x13 : List ByteArray) {α : Type} (K : SV → Mem → Option α) : callBody (table [(35, ⟨args_merkle_Node, mem_merkle_Node, outs_merkle_Node, F_merkle_Node⟩)] []) br_merkle_joined rc_merkle_joined fd_merkle_joined (args_merkle_joined.svs (x1, (x2, (x3, ())))) (mem_merkle_joined.mem ((x4, (x5, (x6, ()))), (x7, (x8, (x9, (x10, (x11, (x12, (x13, ()))))))))) K = tree_merkle_joined F_merkle_Node x1 x2 x3 x4 x5 x6 x7 x8 x9 x10 x11 x12 x13 (fun r => outsRun outs_merkle_joined r K) := by kernel_rfl
noncomputable def C_merkle_joined : Con := ⟨args_merkle_joined, mem_merkle_joined, outs_merkle_joined, F_merkle_joined⟩
theorem k_merkle_joined : Known Try.prog fd_merkle_joined [(35, C_merkle_Node)] [] := known_of mixT (by kernel_rfl) ⟨ok_merkle_Node, trivial⟩ trivial
theorem fn_merkle_joined : FnOK Try.prog an_merkle_joined 52 Try.f52 fd_merkle_joined := fnOK (by kernel_rfl) (by kernel_rfl) (by kernel_rfl)
theorem ok_merkle_joined : ConOK Try.prog 52 C_merkle_joined := con_of k_merkle_joined (byRef := br_merkle_joined) fn_merkle_joined rc_merkle_joined args_merkle_joined mem_merkle_joined outs_merkle_joined (fun a b K => tree_merkle_joined F_merkle_Node a.1 a.2.1 a.2.2.1 b.1.1 b.1.2.1 b.1.2.2.1 b.2.1 b.2.2.1 b.2.2.2.1 b.2.2.2.2.1 b.2.2.2.2.2.1 b.2.2.2.2.2.2.1 b.2.2.2.2.2.2.2.1 K) (fun a b => h_merkle_joined F_merkle_Node a.1 a.2.1 a.2.2.1 b.1.1 b.1.2.1 b.1.2.2.1 b.2.1 b.2.2.1 b.2.2.2.1 b.2.2.2.2.1 b.2.2.2.2.2.1 b.2.2.2.2.2.2.1 b.2.2.2.2.2.2.2.1 _) (fun a b K => n_merkle_joined F_merkle_Node a.1 a.2.1 a.2.2.1 b.1.1 b.1.2.1 b.1.2.2.1 b.2.1 b.2.2.1 b.2.2.2.1 b.2.2.2.2.1 b.2.2.2.2.2.1 b.2.2.2.2.2.2.1 b.2.2.2.2.2.2.2.1 K)

end Go.Proofs.Ytljfdfghagiblaa.S2
