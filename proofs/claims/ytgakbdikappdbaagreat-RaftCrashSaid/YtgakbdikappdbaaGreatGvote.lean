/- Plain forms of the program's functions, by program. -/
import Derived.Test.YtgakbdikappdbaaGreatS2y
set_option maxRecDepth 100000
set_option maxHeartbeats 0
set_option linter.unusedVariables false
set_option linter.unusedSimpArgs false
namespace Go.Proofs.YtgakbdikappdbaaGreat.S2
open Go
def args_vote_Seen : SkL := (.cons (.agg (.cons (.leaf (.int .u64)) (.cons (.leaf (.int .u64)) .nil))) (.cons (.leaf (.int .u64)) .nil))
def mem_vote_Seen : MSk := []
def outs_vote_Seen : List OutC := [⟨(.agg (.cons (.leaf (.int .u64)) (.cons (.leaf (.int .u64)) .nil))), []⟩]
abbrev A_vote_Seen : Type := ((Int × Int × Unit) × Int × Unit)
abbrev M_vote_Seen : Type := Unit
abbrev O_vote_Seen : Type := (Int × Int × Unit) × Unit
def tree_vote_Seen {α : Type} (x1 : Int) (x2 : Int) (x3 : Int) (K : O_vote_Seen → Option α) : Option α :=
  cond (decide (x1 ≥ x3))
  (K ((x1, (x2, ())), ()))
  (K ((x3, (0, ())), ()))
noncomputable def F_vote_Seen : A_vote_Seen → M_vote_Seen → Option O_vote_Seen := fun a b => tree_vote_Seen a.1.1 a.1.2.1 a.2.1 some
theorem n_vote_Seen (x1 : Int) (x2 : Int) (x3 : Int) {α : Type} (K : O_vote_Seen → Option α) : tree_vote_Seen x1 x2 x3 K = (tree_vote_Seen x1 x2 x3 some).bind K := by simp only [tree_vote_Seen, bind_cond, bind_none', bind_some', bind_bind', bind_sum]
theorem Fe_vote_Seen (x1 : Int) (x2 : Int) (x3 : Int) : F_vote_Seen ((x1, (x2, ())), (x3, ())) () = tree_vote_Seen x1 x2 x3 some := rfl
def args_rlog_Last : SkL := (.cons (.agg (.cons (.leaf (.int .u64)) (.cons (.leaf (.int .u64)) (.cons (.leaf (.slc 75 (.cons (.int .u64) (.cons (.int .i64) (.cons .str .nil))))) .nil)))) .nil)
def mem_rlog_Last : MSk := []
def outs_rlog_Last : List OutC := [⟨(.leaf (.int .u64)), []⟩]
abbrev A_rlog_Last : Type := ((Int × Int × (List (Int × Int × ByteArray)) × Unit) × Unit)
abbrev M_rlog_Last : Type := Unit
abbrev O_rlog_Last : Type := Int × Unit
def tree_rlog_Last {α : Type} (x1 : Int) (x2 : Int) (x3 : List (Int × Int × ByteArray)) (K : O_rlog_Last → Option α) : Option α :=
  K (IntKind.u64.wrap (x1 + IntKind.u64.wrap (↑x3.length : Int)), ())
noncomputable def F_rlog_Last : A_rlog_Last → M_rlog_Last → Option O_rlog_Last := fun a b => tree_rlog_Last a.1.1 a.1.2.1 a.1.2.2.1 some
theorem n_rlog_Last (x1 : Int) (x2 : Int) (x3 : List (Int × Int × ByteArray)) {α : Type} (K : O_rlog_Last → Option α) : tree_rlog_Last x1 x2 x3 K = (tree_rlog_Last x1 x2 x3 some).bind K := by simp only [tree_rlog_Last, bind_cond, bind_none', bind_some', bind_bind', bind_sum]
def args_rlog_Entry : SkL := (.cons (.agg (.cons (.leaf (.int .u64)) (.cons (.leaf (.int .u64)) (.cons (.leaf (.slc 75 (.cons (.int .u64) (.cons (.int .i64) (.cons .str .nil))))) .nil)))) (.cons (.leaf (.int .u64)) .nil))
def mem_rlog_Entry : MSk := []
def outs_rlog_Entry : List OutC := [⟨(.tup (.cons (.agg (.cons (.leaf (.int .u64)) (.cons (.leaf (.int .i64)) (.cons (.leaf .str) .nil)))) (.cons (.leaf .bool) .nil))), []⟩]
abbrev A_rlog_Entry : Type := ((Int × Int × (List (Int × Int × ByteArray)) × Unit) × Int × Unit)
abbrev M_rlog_Entry : Type := Unit
abbrev O_rlog_Entry : Type := ((Int × Int × ByteArray × Unit) × Bool × Unit) × Unit
def tree_rlog_Entry {α : Type} (x1 : Int) (x2 : Int) (x3 : List (Int × Int × ByteArray)) (x4 : Int) (K : O_rlog_Entry → Option α) : Option α :=
  cond (decide (x4 ≤ x1))
  (K (((0, (0, (ByteArray.empty, ()))), (false, ())), ()))
  (cond (decide (IntKind.u64.wrap (x4 - x1) > IntKind.u64.wrap (↑x3.length : Int)))
   (K (((0, (0, (ByteArray.empty, ()))), (false, ())), ()))
   (cond (decide (0 ≤ IntKind.u64.wrap (IntKind.u64.wrap (x4 - x1) - 1)))
    (cond (decide (IntKind.u64.wrap (IntKind.u64.wrap (x4 - x1) - 1) < (↑x3.length : Int)))
     (K ((((x3.getD (IntKind.u64.wrap (IntKind.u64.wrap (x4 - x1) - 1)).toNat (0, 0, ByteArray.empty)).fst, ((x3.getD (IntKind.u64.wrap (IntKind.u64.wrap (x4 - x1) - 1)).toNat (0, 0, ByteArray.empty)).snd.fst, ((x3.getD (IntKind.u64.wrap (IntKind.u64.wrap (x4 - x1) - 1)).toNat (0, 0, ByteArray.empty)).snd.snd, ()))), (true, ())), ()))
     (none))
    (none)))
noncomputable def F_rlog_Entry : A_rlog_Entry → M_rlog_Entry → Option O_rlog_Entry := fun a b => tree_rlog_Entry a.1.1 a.1.2.1 a.1.2.2.1 a.2.1 some
theorem n_rlog_Entry (x1 : Int) (x2 : Int) (x3 : List (Int × Int × ByteArray)) (x4 : Int) {α : Type} (K : O_rlog_Entry → Option α) : tree_rlog_Entry x1 x2 x3 x4 K = (tree_rlog_Entry x1 x2 x3 x4 some).bind K := by simp only [tree_rlog_Entry, bind_cond, bind_none', bind_some', bind_bind', bind_sum]
theorem Fe_rlog_Entry (x1 : Int) (x2 : Int) (x3 : List (Int × Int × ByteArray)) (x4 : Int) : F_rlog_Entry ((x1, (x2, (x3, ()))), (x4, ())) () = tree_rlog_Entry x1 x2 x3 x4 some := rfl
def args_rlog_Term : SkL := (.cons (.agg (.cons (.leaf (.int .u64)) (.cons (.leaf (.int .u64)) (.cons (.leaf (.slc 75 (.cons (.int .u64) (.cons (.int .i64) (.cons .str .nil))))) .nil)))) (.cons (.leaf (.int .u64)) .nil))
def mem_rlog_Term : MSk := []
def outs_rlog_Term : List OutC := [⟨(.tup (.cons (.leaf (.int .u64)) (.cons (.leaf .bool) .nil))), []⟩]
abbrev A_rlog_Term : Type := ((Int × Int × (List (Int × Int × ByteArray)) × Unit) × Int × Unit)
abbrev M_rlog_Term : Type := Unit
abbrev O_rlog_Term : Type := (Int × Bool × Unit) × Unit
def tree_rlog_Term (F_rlog_Entry : A_rlog_Entry → M_rlog_Entry → Option O_rlog_Entry) {α : Type} (x1 : Int) (x2 : Int) (x3 : List (Int × Int × ByteArray)) (x4 : Int) (K : O_rlog_Term → Option α) : Option α :=
  cond (x4 == x1)
  (K ((x2, (true, ())), ()))
  ((F_rlog_Entry ((x1, x2, x3, ()), x4, ()) ()).bind fun r1 =>
   K ((r1.fst.fst.fst, (r1.fst.snd.fst, ())), ()))
noncomputable def F_rlog_Term : A_rlog_Term → M_rlog_Term → Option O_rlog_Term := fun a b => tree_rlog_Term F_rlog_Entry a.1.1 a.1.2.1 a.1.2.2.1 a.2.1 some
theorem n_rlog_Term (F_rlog_Entry : A_rlog_Entry → M_rlog_Entry → Option O_rlog_Entry) (x1 : Int) (x2 : Int) (x3 : List (Int × Int × ByteArray)) (x4 : Int) {α : Type} (K : O_rlog_Term → Option α) : tree_rlog_Term F_rlog_Entry x1 x2 x3 x4 K = (tree_rlog_Term F_rlog_Entry x1 x2 x3 x4 some).bind K := by simp only [tree_rlog_Term, bind_cond, bind_none', bind_some', bind_bind', bind_sum]
theorem Fe_rlog_Term (x1 : Int) (x2 : Int) (x3 : List (Int × Int × ByteArray)) (x4 : Int) : F_rlog_Term ((x1, (x2, (x3, ()))), (x4, ())) () = tree_rlog_Term F_rlog_Entry x1 x2 x3 x4 some := rfl
def args_rlog_Newer : SkL := (.cons (.agg (.cons (.leaf (.int .u64)) (.cons (.leaf (.int .u64)) (.cons (.leaf (.slc 75 (.cons (.int .u64) (.cons (.int .i64) (.cons .str .nil))))) .nil)))) (.cons (.leaf (.int .u64)) (.cons (.leaf (.int .u64)) .nil)))
def mem_rlog_Newer : MSk := []
def outs_rlog_Newer : List OutC := [⟨(.leaf .bool), []⟩]
abbrev A_rlog_Newer : Type := ((Int × Int × (List (Int × Int × ByteArray)) × Unit) × Int × Int × Unit)
abbrev M_rlog_Newer : Type := Unit
abbrev O_rlog_Newer : Type := Bool × Unit
def tree_rlog_Newer (F_rlog_Last : A_rlog_Last → M_rlog_Last → Option O_rlog_Last) (F_rlog_Term : A_rlog_Term → M_rlog_Term → Option O_rlog_Term) {α : Type} (x1 : Int) (x2 : Int) (x3 : List (Int × Int × ByteArray)) (x4 : Int) (x5 : Int) (K : O_rlog_Newer → Option α) : Option α :=
  (F_rlog_Last ((x1, x2, x3, ()), ()) ()).bind fun r1 =>
  (F_rlog_Term ((x1, x2, x3, ()), r1.fst, ()) ()).bind fun r2 =>
  cond (decide (x5 > r2.fst.fst))
  (K (true, ()))
  (cond (x5 == r2.fst.fst)
   ((F_rlog_Last ((x1, x2, x3, ()), ()) ()).bind fun r3 =>
    K (decide (x4 ≥ r3.fst), ()))
   (K (false, ())))
noncomputable def F_rlog_Newer : A_rlog_Newer → M_rlog_Newer → Option O_rlog_Newer := fun a b => tree_rlog_Newer F_rlog_Last F_rlog_Term a.1.1 a.1.2.1 a.1.2.2.1 a.2.1 a.2.2.1 some
theorem n_rlog_Newer (F_rlog_Last : A_rlog_Last → M_rlog_Last → Option O_rlog_Last) (F_rlog_Term : A_rlog_Term → M_rlog_Term → Option O_rlog_Term) (x1 : Int) (x2 : Int) (x3 : List (Int × Int × ByteArray)) (x4 : Int) (x5 : Int) {α : Type} (K : O_rlog_Newer → Option α) : tree_rlog_Newer F_rlog_Last F_rlog_Term x1 x2 x3 x4 x5 K = (tree_rlog_Newer F_rlog_Last F_rlog_Term x1 x2 x3 x4 x5 some).bind K := by simp only [tree_rlog_Newer, bind_cond, bind_none', bind_some', bind_bind', bind_sum]
theorem Fe_rlog_Newer (x1 : Int) (x2 : Int) (x3 : List (Int × Int × ByteArray)) (x4 : Int) (x5 : Int) : F_rlog_Newer ((x1, (x2, (x3, ()))), (x4, (x5, ()))) () = tree_rlog_Newer F_rlog_Last F_rlog_Term x1 x2 x3 x4 x5 some := rfl
def args_vote_Ask : SkL := (.cons (.agg (.cons (.leaf (.int .u64)) (.cons (.leaf (.int .u64)) .nil))) (.cons (.agg (.cons (.leaf (.int .u64)) (.cons (.leaf (.int .u64)) (.cons (.leaf (.slc 75 (.cons (.int .u64) (.cons (.int .i64) (.cons .str .nil))))) .nil)))) (.cons (.leaf (.int .u64)) (.cons (.leaf (.int .u64)) (.cons (.leaf (.int .u64)) (.cons (.leaf (.int .u64)) .nil))))))
def mem_vote_Ask : MSk := []
def outs_vote_Ask : List OutC := [⟨(.tup (.cons (.agg (.cons (.leaf (.int .u64)) (.cons (.leaf (.int .u64)) .nil))) (.cons (.leaf .bool) .nil))), []⟩]
abbrev A_vote_Ask : Type := ((Int × Int × Unit) × (Int × Int × (List (Int × Int × ByteArray)) × Unit) × Int × Int × Int × Int × Unit)
abbrev M_vote_Ask : Type := Unit
abbrev O_vote_Ask : Type := ((Int × Int × Unit) × Bool × Unit) × Unit
def tree_vote_Ask (F_vote_Seen : A_vote_Seen → M_vote_Seen → Option O_vote_Seen) (F_rlog_Newer : A_rlog_Newer → M_rlog_Newer → Option O_rlog_Newer) {α : Type} (x1 : Int) (x2 : Int) (x3 : Int) (x4 : Int) (x5 : List (Int × Int × ByteArray)) (x6 : Int) (x7 : Int) (x8 : Int) (x9 : Int) (K : O_vote_Ask → Option α) : Option α :=
  cond (decide (x6 < x1))
  (K (((x1, (x2, ())), (false, ())), ()))
  (cond (x7 == 18446744073709551615)
   (K (((x1, (x2, ())), (false, ())), ()))
   ((F_vote_Seen ((x1, x2, ()), x6, ()) ()).bind fun r1 =>
    cond (r1.fst.snd.fst != 0)
    (cond (r1.fst.snd.fst != IntKind.u64.wrap (x7 + 1))
     (K (((r1.fst.fst, (r1.fst.snd.fst, ())), (false, ())), ()))
     ((F_rlog_Newer ((x3, x4, x5, ()), x8, x9, ()) ()).bind fun r2 =>
      cond (!r2.fst)
      (K (((r1.fst.fst, (r1.fst.snd.fst, ())), (false, ())), ()))
      (K (((r1.fst.fst, (IntKind.u64.wrap (x7 + 1), ())), (true, ())), ()))))
    ((F_rlog_Newer ((x3, x4, x5, ()), x8, x9, ()) ()).bind fun r3 =>
     cond (!r3.fst)
     (K (((r1.fst.fst, (r1.fst.snd.fst, ())), (false, ())), ()))
     (K (((r1.fst.fst, (IntKind.u64.wrap (x7 + 1), ())), (true, ())), ())))))
noncomputable def F_vote_Ask : A_vote_Ask → M_vote_Ask → Option O_vote_Ask := fun a b => tree_vote_Ask F_vote_Seen F_rlog_Newer a.1.1 a.1.2.1 a.2.1.1 a.2.1.2.1 a.2.1.2.2.1 a.2.2.1 a.2.2.2.1 a.2.2.2.2.1 a.2.2.2.2.2.1 some
theorem n_vote_Ask (F_vote_Seen : A_vote_Seen → M_vote_Seen → Option O_vote_Seen) (F_rlog_Newer : A_rlog_Newer → M_rlog_Newer → Option O_rlog_Newer) (x1 : Int) (x2 : Int) (x3 : Int) (x4 : Int) (x5 : List (Int × Int × ByteArray)) (x6 : Int) (x7 : Int) (x8 : Int) (x9 : Int) {α : Type} (K : O_vote_Ask → Option α) : tree_vote_Ask F_vote_Seen F_rlog_Newer x1 x2 x3 x4 x5 x6 x7 x8 x9 K = (tree_vote_Ask F_vote_Seen F_rlog_Newer x1 x2 x3 x4 x5 x6 x7 x8 x9 some).bind K := by simp only [tree_vote_Ask, bind_cond, bind_none', bind_some', bind_bind', bind_sum]
theorem Fe_vote_Ask (x1 : Int) (x2 : Int) (x3 : Int) (x4 : Int) (x5 : List (Int × Int × ByteArray)) (x6 : Int) (x7 : Int) (x8 : Int) (x9 : Int) : F_vote_Ask ((x1, (x2, ())), ((x3, (x4, (x5, ()))), (x6, (x7, (x8, (x9, ())))))) () = tree_vote_Ask F_vote_Seen F_rlog_Newer x1 x2 x3 x4 x5 x6 x7 x8 x9 some := rfl
end Go.Proofs.YtgakbdikappdbaaGreat.S2
