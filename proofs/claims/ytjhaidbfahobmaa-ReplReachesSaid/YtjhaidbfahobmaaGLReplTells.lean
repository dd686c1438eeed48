/- Plain forms of the program's functions, by program. -/
import Derived.Test.YtjhaidbfahobmaaGlaw17
import Derived.Test.YtjhaidbfahobmaaGrrepl
set_option maxRecDepth 100000
set_option maxHeartbeats 0
set_option linter.unusedVariables false
set_option linter.unusedSimpArgs false
namespace Go.Proofs.Ytjhaidbfahobmaa.S2
open Go
/-! countersign/countersignlaw17.ReplTells -/
def args_law17_ReplTells : SkL := (.cons (.agg (.cons (.leaf (.int .u64)) (.cons (.leaf (.int .u64)) (.cons (.leaf (.slc 70 (.cons (.int .u64) (.cons (.int .i64) (.cons .str .nil))))) .nil)))) (.cons (.agg (.cons (.leaf (.slc 22 (.cons (.int .u64) .nil))) (.cons (.leaf (.slc 43 (.cons (.int .u64) (.cons (.int .u64) (.cons (.int .u64) .nil))))) (.cons (.leaf (.int .u64)) (.cons (.leaf (.int .u64)) .nil))))) (.cons (.agg (.cons (.leaf (.int .u64)) (.cons (.leaf (.int .i64)) .nil))) .nil)))
def mem_law17_ReplTells : MSk := []
def outs_law17_ReplTells : List OutC := [⟨(.leaf .bool), []⟩]
abbrev A_law17_ReplTells : Type := ((Int × Int × (List (Int × Int × ByteArray)) × Unit) × (List Int × (List (Int × Int × Int)) × Int × Int × Unit) × (Int × Int × Unit) × Unit)
abbrev M_law17_ReplTells : Type := Unit
abbrev O_law17_ReplTells : Type := Bool × Unit
def tree_law17_ReplTells (F_law17_fixed : A_law17_fixed → M_law17_fixed → Option O_law17_fixed) (F_ref15_May : A_ref15_May → M_ref15_May → Option O_ref15_May) (F_repl_Send : A_repl_Send → M_repl_Send → Option O_repl_Send) (F_ref17_Send : A_ref17_Send → M_ref17_Send → Option O_ref17_Send) (F_ref15_Entries : A_ref15_Entries → M_ref15_Entries → Option O_ref15_Entries) (F_repl_Commit : A_repl_Commit → M_repl_Commit → Option O_repl_Commit) (F_ref17_Commit : A_ref17_Commit → M_ref17_Commit → Option O_ref17_Commit) (F_repl_Back : A_repl_Back → M_repl_Back → Option O_repl_Back) (F_ref17_Back : A_ref17_Back → M_ref17_Back → Option O_ref17_Back) {α : Type} (x1 : Int) (x2 : Int) (x3 : List (Int × Int × ByteArray)) (x4 : List Int) (x5 : List (Int × Int × Int)) (x6 : Int) (x7 : Int) (x8 : Int) (x9 : Int) (K : O_law17_ReplTells → Option α) : Option α :=
 (F_law17_fixed () ()).bind fun r1 =>
 cond (!r1.fst)
 ((F_law17_fixed () ()).bind fun r2 =>
 K (r2.fst, ()))
 ((F_ref15_May ((x1, x2, x3, ()), ()) ()).bind fun r3 =>
 cond (!r3.fst)
 ((F_law17_fixed () ()).bind fun r4 =>
 K (r4.fst, ()))
 (cond (decide ((↑x4.length : Int) > 20))
 ((F_law17_fixed () ()).bind fun r5 =>
 K (r5.fst, ()))
 (cond (decide ((↑x5.length : Int) > 20))
 ((F_law17_fixed () ()).bind fun r6 =>
 K (r6.fst, ()))
 ((F_repl_Send ((x1, x2, x3, ()), x8, x9, ()) ()).bind fun r7 =>
 (F_ref17_Send ((x1, x2, x3, ()), x8, x9, ()) ()).bind fun r8 =>
 cond (r7.fst.fst == r8.fst.fst)
 (cond (r7.fst.snd.fst == r8.fst.snd.fst)
 ((F_ref15_Entries (r7.fst.snd.snd.fst, r8.fst.snd.snd.fst, ()) ()).bind fun r9 =>
 cond (r9.fst)
 (cond (r7.fst.snd.snd.snd.fst == r8.fst.snd.snd.snd.fst)
 ((F_repl_Commit ((x1, x2, x3, ()), x4, x5, x6, x7, ()) ()).bind fun r10 =>
 (F_ref17_Commit ((x1, x2, x3, ()), x4, x5, x6, x7, ()) ()).bind fun r11 =>
 cond (r10.fst == r11.fst)
 ((F_repl_Back (x8, x7, ()) ()).bind fun r12 =>
 (F_ref17_Back (x8, x7, ()) ()).bind fun r13 =>
 K (r12.fst == r13.fst, ()))
 (K (false, ())))
 (K (false, ())))
 (K (false, ())))
 (K (false, ())))
 (K (false, ()))))))
noncomputable def F_law17_ReplTells : A_law17_ReplTells → M_law17_ReplTells → Option O_law17_ReplTells := fun a b => tree_law17_ReplTells F_law17_fixed F_ref15_May F_repl_Send F_ref17_Send F_ref15_Entries F_repl_Commit F_ref17_Commit F_repl_Back F_ref17_Back a.1.1 a.1.2.1 a.1.2.2.1 a.2.1.1 a.2.1.2.1 a.2.1.2.2.1 a.2.1.2.2.2.1 a.2.2.1.1 a.2.2.1.2.1 some
theorem n_law17_ReplTells (F_law17_fixed : A_law17_fixed → M_law17_fixed → Option O_law17_fixed) (F_ref15_May : A_ref15_May → M_ref15_May → Option O_ref15_May) (F_repl_Send : A_repl_Send → M_repl_Send → Option O_repl_Send) (F_ref17_Send : A_ref17_Send → M_ref17_Send → Option O_ref17_Send) (F_ref15_Entries : A_ref15_Entries → M_ref15_Entries → Option O_ref15_Entries) (F_repl_Commit : A_repl_Commit → M_repl_Commit → Option O_repl_Commit) (F_ref17_Commit : A_ref17_Commit → M_ref17_Commit → Option O_ref17_Commit) (F_repl_Back : A_repl_Back → M_repl_Back → Option O_repl_Back) (F_ref17_Back : A_ref17_Back → M_ref17_Back → Option O_ref17_Back) (x1 : Int) (x2 : Int) (x3 : List (Int × Int × ByteArray)) (x4 : List Int) (x5 : List (Int × Int × Int)) (x6 : Int) (x7 : Int) (x8 : Int) (x9 : Int) {α : Type} (K : O_law17_ReplTells → Option α) : tree_law17_ReplTells F_law17_fixed F_ref15_May F_repl_Send F_ref17_Send F_ref15_Entries F_repl_Commit F_ref17_Commit F_repl_Back F_ref17_Back x1 x2 x3 x4 x5 x6 x7 x8 x9 K = (tree_law17_ReplTells F_law17_fixed F_ref15_May F_repl_Send F_ref17_Send F_ref15_Entries F_repl_Commit F_ref17_Commit F_repl_Back F_ref17_Back x1 x2 x3 x4 x5 x6 x7 x8 x9 some).bind K := by simp only [tree_law17_ReplTells, bind_cond, bind_none', bind_some', bind_bind', bind_sum]
theorem Fe_law17_ReplTells (x1 : Int) (x2 : Int) (x3 : List (Int × Int × ByteArray)) (x4 : List Int) (x5 : List (Int × Int × Int)) (x6 : Int) (x7 : Int) (x8 : Int) (x9 : Int) : F_law17_ReplTells ((x1, (x2, (x3, ()))), ((x4, (x5, (x6, (x7, ())))), ((x8, (x9, ())), ()))) () = tree_law17_ReplTells F_law17_fixed F_ref15_May F_repl_Send F_ref17_Send F_ref15_Entries F_repl_Commit F_ref17_Commit F_repl_Back F_ref17_Back x1 x2 x3 x4 x5 x6 x7 x8 x9 some := rfl

end Go.Proofs.Ytjhaidbfahobmaa.S2
