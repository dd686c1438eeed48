/- Plain forms of the program's functions, by program. -/
import Derived.Test.YtgakbdikappdbaaGreatS2y
set_option maxRecDepth 100000
set_option maxHeartbeats 0
set_option linter.unusedVariables false
set_option linter.unusedSimpArgs false
namespace Go.Proofs.YtgakbdikappdbaaGreat.S2
open Go
def args_ref01_Nums : SkL := (.cons (.leaf (.slc 22 (.cons (.int .u64) .nil))) (.cons (.leaf (.slc 22 (.cons (.int .u64) .nil))) .nil))
def mem_ref01_Nums : MSk := []
def outs_ref01_Nums : List OutC := [⟨(.leaf .bool), []⟩]
abbrev A_ref01_Nums : Type := (List Int × List Int × Unit)
abbrev M_ref01_Nums : Type := Unit
abbrev O_ref01_Nums : Type := Bool × Unit
def ltmps_ref01_Nums_4 : SkL := (.cons (.leaf (.slc 22 (.cons (.int .u64) .nil))) (.cons (.leaf (.slc 22 (.cons (.int .u64) .nil))) (dz 3 (.cons (.leaf (.int .i64)) (dz 20 .nil)))))
def lmem_ref01_Nums_4 : MSk := []
def louts_ref01_Nums_4 : List OutL := [⟨.ret, (dz 4 (.cons (.leaf .bool) (dz 21 .nil))), []⟩, ⟨(.exit 0), (dz 26 .nil), []⟩]
abbrev LT_ref01_Nums_4 : Type := (List Int × List Int × Int × Unit)
abbrev LM_ref01_Nums_4 : Type := Unit
abbrev LO_ref01_Nums_4 : Type := ((Bool × Unit) × Unit) ⊕ (Unit × Unit)
def ltree_ref01_Nums_4 {α : Type} (x1 : List Int) (x2 : List Int) (x3 : Int) (kn : LT_ref01_Nums_4 → LM_ref01_Nums_4 → Option α) (kr : LO_ref01_Nums_4 → Option α) : Option α :=
  cond (decide (x3 < (↑x1.length : Int)))
  (cond (decide (0 ≤ x3))
   (cond (decide (x3 < (↑x1.length : Int)))
    (cond (decide (0 ≤ x3))
     (cond (decide (x3 < (↑x2.length : Int)))
      (cond (x1.getD x3.toNat 0 != x2.getD x3.toNat 0)
       (kr (.inl ((false, ()), ())))
       (kn (x1, (x2, (IntKind.i64.wrap (x3 + 1), ()))) ()))
      (none))
     (none))
    (none))
   (none))
  (kr (.inr ((), ())))
noncomputable def L_ref01_Nums_4 : LT_ref01_Nums_4 → LM_ref01_Nums_4 → Option LO_ref01_Nums_4 := fun x y => runL (fun p => (fun (a : LT_ref01_Nums_4) (b : LM_ref01_Nums_4) => ltree_ref01_Nums_4 a.1 a.2.1 a.2.2.1 (fun a' b' => some (.inl (a', b'))) fun r => some (.inr r)) p.1 p.2) (x, y)
theorem nl_ref01_Nums_4 (x1 : List Int) (x2 : List Int) (x3 : Int) {α : Type} (kn : LT_ref01_Nums_4 → LM_ref01_Nums_4 → Option α) (kr : LO_ref01_Nums_4 → Option α) : ltree_ref01_Nums_4 x1 x2 x3 kn kr = (ltree_ref01_Nums_4 x1 x2 x3 (fun a b => some (.inl (a, b))) fun r => some (.inr r)).bind (Sum.elim (fun p : LT_ref01_Nums_4 × LM_ref01_Nums_4 => kn p.1 p.2) kr) := by simp only [ltree_ref01_Nums_4, bind_cond, bind_none', bind_some', bind_bind', bind_sum, Sum.elim_inl, Sum.elim_inr]
theorem Le_ref01_Nums_4 (x1 : List Int) (x2 : List Int) (x3 : Int) : L_ref01_Nums_4 (x1, (x2, (x3, ()))) () = ltree_ref01_Nums_4 x1 x2 x3 L_ref01_Nums_4 some := runL_tree (A := LT_ref01_Nums_4) (B := LM_ref01_Nums_4) (R := LO_ref01_Nums_4) (fun a b kn kr => ltree_ref01_Nums_4 a.1 a.2.1 a.2.2.1 kn kr) (fun a b kn kr => nl_ref01_Nums_4 a.1 a.2.1 a.2.2.1 kn kr) (x1, (x2, (x3, ()))) ()
def tree_ref01_Nums (L_ref01_Nums_4 : LT_ref01_Nums_4 → LM_ref01_Nums_4 → Option LO_ref01_Nums_4) {α : Type} (x1 : List Int) (x2 : List Int) (K : O_ref01_Nums → Option α) : Option α :=
  cond ((↑x1.length : Int) != (↑x2.length : Int))
  (K (false, ()))
  ((L_ref01_Nums_4 (x1, x2, 0, ()) ()).bind fun r1 =>
   Sum.elim (fun u2 =>
    K (u2.fst.fst, ()))
   (fun u2 =>
    K (true, ())) (r1))
noncomputable def F_ref01_Nums : A_ref01_Nums → M_ref01_Nums → Option O_ref01_Nums := fun a b => tree_ref01_Nums L_ref01_Nums_4 a.1 a.2.1 some
theorem n_ref01_Nums (L_ref01_Nums_4 : LT_ref01_Nums_4 → LM_ref01_Nums_4 → Option LO_ref01_Nums_4) (x1 : List Int) (x2 : List Int) {α : Type} (K : O_ref01_Nums → Option α) : tree_ref01_Nums L_ref01_Nums_4 x1 x2 K = (tree_ref01_Nums L_ref01_Nums_4 x1 x2 some).bind K := by simp only [tree_ref01_Nums, bind_cond, bind_none', bind_some', bind_bind', bind_sum]
theorem Fe_ref01_Nums (x1 : List Int) (x2 : List Int) : F_ref01_Nums (x1, (x2, ())) () = tree_ref01_Nums L_ref01_Nums_4 x1 x2 some := rfl
def args_ref15_Entries : SkL := (.cons (.leaf (.slc 75 (.cons (.int .u64) (.cons (.int .i64) (.cons .str .nil))))) (.cons (.leaf (.slc 75 (.cons (.int .u64) (.cons (.int .i64) (.cons .str .nil))))) .nil))
def mem_ref15_Entries : MSk := []
def outs_ref15_Entries : List OutC := [⟨(.leaf .bool), []⟩]
abbrev A_ref15_Entries : Type := ((List (Int × Int × ByteArray)) × (List (Int × Int × ByteArray)) × Unit)
abbrev M_ref15_Entries : Type := Unit
abbrev O_ref15_Entries : Type := Bool × Unit
def ltmps_ref15_Entries_4 : SkL := (.cons (.leaf (.slc 75 (.cons (.int .u64) (.cons (.int .i64) (.cons .str .nil))))) (.cons (.leaf (.slc 75 (.cons (.int .u64) (.cons (.int .i64) (.cons .str .nil))))) (dz 3 (.cons (.leaf (.int .i64)) (dz 20 .nil)))))
def lmem_ref15_Entries_4 : MSk := []
def louts_ref15_Entries_4 : List OutL := [⟨.ret, (dz 4 (.cons (.leaf .bool) (dz 21 .nil))), []⟩, ⟨(.exit 0), (dz 26 .nil), []⟩]
abbrev LT_ref15_Entries_4 : Type := ((List (Int × Int × ByteArray)) × (List (Int × Int × ByteArray)) × Int × Unit)
abbrev LM_ref15_Entries_4 : Type := Unit
abbrev LO_ref15_Entries_4 : Type := ((Bool × Unit) × Unit) ⊕ (Unit × Unit)
def ltree_ref15_Entries_4 {α : Type} (x1 : List (Int × Int × ByteArray)) (x2 : List (Int × Int × ByteArray)) (x3 : Int) (kn : LT_ref15_Entries_4 → LM_ref15_Entries_4 → Option α) (kr : LO_ref15_Entries_4 → Option α) : Option α :=
  cond (decide (x3 < (↑x1.length : Int)))
  (cond (decide (0 ≤ x3))
   (cond (decide (x3 < (↑x1.length : Int)))
    (cond (decide (0 ≤ x3))
     (cond (decide (x3 < (↑x2.length : Int)))
      (cond (Bool.true ^^   (x1.getD x3.toNat (0, 0, ByteArray.empty)).fst == (x2.getD x3.toNat (0, 0, ByteArray.empty)).fst &&     ((x1.getD x3.toNat (0, 0, ByteArray.empty)).snd.fst == (x2.getD x3.toNat (0, 0, ByteArray.empty)).snd.fst &&       ((x1.getD x3.toNat (0, 0, ByteArray.empty)).snd.snd.toList ==           (x2.getD x3.toNat (0, 0, ByteArray.empty)).snd.snd.toList &&         Bool.true)))
       (kr (.inl ((false, ()), ())))
       (kn (x1, (x2, (IntKind.i64.wrap (x3 + 1), ()))) ()))
      (none))
     (none))
    (none))
   (none))
  (kr (.inr ((), ())))
noncomputable def L_ref15_Entries_4 : LT_ref15_Entries_4 → LM_ref15_Entries_4 → Option LO_ref15_Entries_4 := fun x y => runL (fun p => (fun (a : LT_ref15_Entries_4) (b : LM_ref15_Entries_4) => ltree_ref15_Entries_4 a.1 a.2.1 a.2.2.1 (fun a' b' => some (.inl (a', b'))) fun r => some (.inr r)) p.1 p.2) (x, y)
theorem nl_ref15_Entries_4 (x1 : List (Int × Int × ByteArray)) (x2 : List (Int × Int × ByteArray)) (x3 : Int) {α : Type} (kn : LT_ref15_Entries_4 → LM_ref15_Entries_4 → Option α) (kr : LO_ref15_Entries_4 → Option α) : ltree_ref15_Entries_4 x1 x2 x3 kn kr = (ltree_ref15_Entries_4 x1 x2 x3 (fun a b => some (.inl (a, b))) fun r => some (.inr r)).bind (Sum.elim (fun p : LT_ref15_Entries_4 × LM_ref15_Entries_4 => kn p.1 p.2) kr) := by simp only [ltree_ref15_Entries_4, bind_cond, bind_none', bind_some', bind_bind', bind_sum, Sum.elim_inl, Sum.elim_inr]
theorem Le_ref15_Entries_4 (x1 : List (Int × Int × ByteArray)) (x2 : List (Int × Int × ByteArray)) (x3 : Int) : L_ref15_Entries_4 (x1, (x2, (x3, ()))) () = ltree_ref15_Entries_4 x1 x2 x3 L_ref15_Entries_4 some := runL_tree (A := LT_ref15_Entries_4) (B := LM_ref15_Entries_4) (R := LO_ref15_Entries_4) (fun a b kn kr => ltree_ref15_Entries_4 a.1 a.2.1 a.2.2.1 kn kr) (fun a b kn kr => nl_ref15_Entries_4 a.1 a.2.1 a.2.2.1 kn kr) (x1, (x2, (x3, ()))) ()
def tree_ref15_Entries (L_ref15_Entries_4 : LT_ref15_Entries_4 → LM_ref15_Entries_4 → Option LO_ref15_Entries_4) {α : Type} (x1 : List (Int × Int × ByteArray)) (x2 : List (Int × Int × ByteArray)) (K : O_ref15_Entries → Option α) : Option α :=
  cond ((↑x1.length : Int) != (↑x2.length : Int))
  (K (false, ()))
  ((L_ref15_Entries_4 (x1, x2, 0, ()) ()).bind fun r1 =>
   Sum.elim (fun u2 =>
    K (u2.fst.fst, ()))
   (fun u2 =>
    K (true, ())) (r1))
noncomputable def F_ref15_Entries : A_ref15_Entries → M_ref15_Entries → Option O_ref15_Entries := fun a b => tree_ref15_Entries L_ref15_Entries_4 a.1 a.2.1 some
theorem n_ref15_Entries (L_ref15_Entries_4 : LT_ref15_Entries_4 → LM_ref15_Entries_4 → Option LO_ref15_Entries_4) (x1 : List (Int × Int × ByteArray)) (x2 : List (Int × Int × ByteArray)) {α : Type} (K : O_ref15_Entries → Option α) : tree_ref15_Entries L_ref15_Entries_4 x1 x2 K = (tree_ref15_Entries L_ref15_Entries_4 x1 x2 some).bind K := by simp only [tree_ref15_Entries, bind_cond, bind_none', bind_some', bind_bind', bind_sum]
theorem Fe_ref15_Entries (x1 : List (Int × Int × ByteArray)) (x2 : List (Int × Int × ByteArray)) : F_ref15_Entries (x1, (x2, ())) () = tree_ref15_Entries L_ref15_Entries_4 x1 x2 some := rfl
def args_ref15_Is : SkL := (.cons (.agg (.cons (.leaf (.int .u64)) (.cons (.leaf (.int .u64)) (.cons (.leaf (.slc 75 (.cons (.int .u64) (.cons (.int .i64) (.cons .str .nil))))) .nil)))) (.cons (.agg (.cons (.leaf (.int .u64)) (.cons (.leaf (.int .u64)) (.cons (.leaf (.slc 75 (.cons (.int .u64) (.cons (.int .i64) (.cons .str .nil))))) .nil)))) .nil))
def mem_ref15_Is : MSk := []
def outs_ref15_Is : List OutC := [⟨(.leaf .bool), []⟩]
abbrev A_ref15_Is : Type := ((Int × Int × (List (Int × Int × ByteArray)) × Unit) × (Int × Int × (List (Int × Int × ByteArray)) × Unit) × Unit)
abbrev M_ref15_Is : Type := Unit
abbrev O_ref15_Is : Type := Bool × Unit
def tree_ref15_Is (F_ref15_Entries : A_ref15_Entries → M_ref15_Entries → Option O_ref15_Entries) {α : Type} (x1 : Int) (x2 : Int) (x3 : List (Int × Int × ByteArray)) (x4 : Int) (x5 : Int) (x6 : List (Int × Int × ByteArray)) (K : O_ref15_Is → Option α) : Option α :=
  cond (x1 == x4)
  (cond (x2 == x5)
   ((F_ref15_Entries (x3, x6, ()) ()).bind fun r1 =>
    K (r1.fst, ()))
   (K (false, ())))
  (K (false, ()))
noncomputable def F_ref15_Is : A_ref15_Is → M_ref15_Is → Option O_ref15_Is := fun a b => tree_ref15_Is F_ref15_Entries a.1.1 a.1.2.1 a.1.2.2.1 a.2.1.1 a.2.1.2.1 a.2.1.2.2.1 some
theorem n_ref15_Is (F_ref15_Entries : A_ref15_Entries → M_ref15_Entries → Option O_ref15_Entries) (x1 : Int) (x2 : Int) (x3 : List (Int × Int × ByteArray)) (x4 : Int) (x5 : Int) (x6 : List (Int × Int × ByteArray)) {α : Type} (K : O_ref15_Is → Option α) : tree_ref15_Is F_ref15_Entries x1 x2 x3 x4 x5 x6 K = (tree_ref15_Is F_ref15_Entries x1 x2 x3 x4 x5 x6 some).bind K := by simp only [tree_ref15_Is, bind_cond, bind_none', bind_some', bind_bind', bind_sum]
theorem Fe_ref15_Is (x1 : Int) (x2 : Int) (x3 : List (Int × Int × ByteArray)) (x4 : Int) (x5 : Int) (x6 : List (Int × Int × ByteArray)) : F_ref15_Is ((x1, (x2, (x3, ()))), ((x4, (x5, (x6, ()))), ())) () = tree_ref15_Is F_ref15_Entries x1 x2 x3 x4 x5 x6 some := rfl
def args_ref18_Is : SkL := (.cons (.agg (.cons (.leaf (.int .u64)) (.cons (.leaf (.slc 22 (.cons (.int .u64) .nil))) (.cons (.leaf (.int .u64)) (.cons (.leaf (.int .u64)) (.cons (.leaf (.int .u64)) (.cons (.leaf (.int .u64)) (.cons (.leaf (.slc 75 (.cons (.int .u64) (.cons (.int .i64) (.cons .str .nil))))) (.cons (.leaf .str) (.cons (.leaf (.int .i64)) (.cons (.leaf (.int .u64)) (.cons (.leaf (.int .u64)) (.cons (.leaf (.slc 22 (.cons (.int .u64) .nil))) (.cons (.leaf (.slc 54 (.cons (.int .u64) (.cons (.int .u64) (.cons (.int .u64) .nil))))) (.cons (.leaf (.int .i64)) .nil))))))))))))))) (.cons (.agg (.cons (.leaf (.int .u64)) (.cons (.leaf (.slc 22 (.cons (.int .u64) .nil))) (.cons (.leaf (.int .u64)) (.cons (.leaf (.int .u64)) (.cons (.leaf (.int .u64)) (.cons (.leaf (.int .u64)) (.cons (.leaf (.slc 75 (.cons (.int .u64) (.cons (.int .i64) (.cons .str .nil))))) (.cons (.leaf .str) (.cons (.leaf (.int .i64)) (.cons (.leaf (.int .u64)) (.cons (.leaf (.int .u64)) (.cons (.leaf (.slc 22 (.cons (.int .u64) .nil))) (.cons (.leaf (.slc 54 (.cons (.int .u64) (.cons (.int .u64) (.cons (.int .u64) .nil))))) (.cons (.leaf (.int .i64)) .nil))))))))))))))) .nil))
def mem_ref18_Is : MSk := []
def outs_ref18_Is : List OutC := [⟨(.leaf .bool), []⟩]
abbrev A_ref18_Is : Type := ((Int × List Int × Int × Int × Int × Int × (List (Int × Int × ByteArray)) × ByteArray × Int × Int × Int × List Int × (List (Int × Int × Int)) × Int × Unit) × (Int × List Int × Int × Int × Int × Int × (List (Int × Int × ByteArray)) × ByteArray × Int × Int × Int × List Int × (List (Int × Int × Int)) × Int × Unit) × Unit)
abbrev M_ref18_Is : Type := Unit
abbrev O_ref18_Is : Type := Bool × Unit
def ltmps_ref18_Is_6 : SkL := (dz 2 (.cons (.const (.ptr 1064 0 0)) (.cons (.const (.ptr 1096 0 0)) (.cons (.const .dead) (.cons (.leaf (.int .i64)) (dz 96 .nil))))))
def lmem_ref18_Is_6 : MSk := [(1064, .cells (.cons (.leaf (.int .u64)) (.cons (.leaf (.slc 22 (.cons (.int .u64) .nil))) (.cons (.leaf (.int .u64)) (.cons (.leaf (.int .u64)) (.cons (.leaf (.int .u64)) (.cons (.leaf (.int .u64)) (.cons (.leaf (.slc 75 (.cons (.int .u64) (.cons (.int .i64) (.cons .str .nil))))) (.cons (.leaf .str) (.cons (.leaf (.int .i64)) (.cons (.leaf (.int .u64)) (.cons (.leaf (.int .u64)) (.cons (.leaf (.slc 22 (.cons (.int .u64) .nil))) (.cons (.leaf (.slc 54 (.cons (.int .u64) (.cons (.int .u64) (.cons (.int .u64) .nil))))) (.cons (.leaf (.int .i64)) .nil))))))))))))))), (1096, .cells (.cons (.leaf (.int .u64)) (.cons (.leaf (.slc 22 (.cons (.int .u64) .nil))) (.cons (.leaf (.int .u64)) (.cons (.leaf (.int .u64)) (.cons (.leaf (.int .u64)) (.cons (.leaf (.int .u64)) (.cons (.leaf (.slc 75 (.cons (.int .u64) (.cons (.int .i64) (.cons .str .nil))))) (.cons (.leaf .str) (.cons (.leaf (.int .i64)) (.cons (.leaf (.int .u64)) (.cons (.leaf (.int .u64)) (.cons (.leaf (.slc 22 (.cons (.int .u64) .nil))) (.cons (.leaf (.slc 54 (.cons (.int .u64) (.cons (.int .u64) (.cons (.int .u64) .nil))))) (.cons (.leaf (.int .i64)) .nil)))))))))))))))]
def louts_ref18_Is_6 : List OutL := [⟨.ret, (dz 4 (.cons (.leaf .bool) (dz 97 .nil))), []⟩, ⟨(.exit 0), (dz 102 .nil), []⟩]
abbrev LT_ref18_Is_6 : Type := (Int × Unit)
abbrev LM_ref18_Is_6 : Type := ((Int × List Int × Int × Int × Int × Int × (List (Int × Int × ByteArray)) × ByteArray × Int × Int × Int × List Int × (List (Int × Int × Int)) × Int × Unit) × (Int × List Int × Int × Int × Int × Int × (List (Int × Int × ByteArray)) × ByteArray × Int × Int × Int × List Int × (List (Int × Int × Int)) × Int × Unit) × Unit)
abbrev LO_ref18_Is_6 : Type := ((Bool × Unit) × Unit) ⊕ (Unit × Unit)
def ltree_ref18_Is_6 {α : Type} (x1 : Int) (x2 : Int) (x3 : List Int) (x4 : Int) (x5 : Int) (x6 : Int) (x7 : Int) (x8 : List (Int × Int × ByteArray)) (x9 : ByteArray) (x10 : Int) (x11 : Int) (x12 : Int) (x13 : List Int) (x14 : List (Int × Int × Int)) (x15 : Int) (x16 : Int) (x17 : List Int) (x18 : Int) (x19 : Int) (x20 : Int) (x21 : Int) (x22 : List (Int × Int × ByteArray)) (x23 : ByteArray) (x24 : Int) (x25 : Int) (x26 : Int) (x27 : List Int) (x28 : List (Int × Int × Int)) (x29 : Int) (kn : LT_ref18_Is_6 → LM_ref18_Is_6 → Option α) (kr : LO_ref18_Is_6 → Option α) : Option α :=
  cond (decide (x1 < (↑x14.length : Int)))
  (cond (decide (0 ≤ x1))
   (cond (decide (x1 < (↑x14.length : Int)))
    (cond (decide (0 ≤ x1))
     (cond (decide (x1 < (↑x28.length : Int)))
      (cond (Bool.true ^^   (x14.getD x1.toNat (0, 0, 0)).fst == (x28.getD x1.toNat (0, 0, 0)).fst &&     ((x14.getD x1.toNat (0, 0, 0)).snd.fst == (x28.getD x1.toNat (0, 0, 0)).snd.fst &&       ((x14.getD x1.toNat (0, 0, 0)).snd.snd == (x28.getD x1.toNat (0, 0, 0)).snd.snd && Bool.true)))
       (kr (.inl ((false, ()), ())))
       (kn (IntKind.i64.wrap (x1 + 1), ()) ((x2, (x3, (x4, (x5, (x6, (x7, (x8, (x9, (x10, (x11, (x12, (x13, (x14, (x15, ())))))))))))))), ((x16, (x17, (x18, (x19, (x20, (x21, (x22, (x23, (x24, (x25, (x26, (x27, (x28, (x29, ())))))))))))))), ()))))
      (none))
     (none))
    (none))
   (none))
  (kr (.inr ((), ())))
noncomputable def L_ref18_Is_6 : LT_ref18_Is_6 → LM_ref18_Is_6 → Option LO_ref18_Is_6 := fun x y => runL (fun p => (fun (a : LT_ref18_Is_6) (b : LM_ref18_Is_6) => ltree_ref18_Is_6 a.1 b.1.1 b.1.2.1 b.1.2.2.1 b.1.2.2.2.1 b.1.2.2.2.2.1 b.1.2.2.2.2.2.1 b.1.2.2.2.2.2.2.1 b.1.2.2.2.2.2.2.2.1 b.1.2.2.2.2.2.2.2.2.1 b.1.2.2.2.2.2.2.2.2.2.1 b.1.2.2.2.2.2.2.2.2.2.2.1 b.1.2.2.2.2.2.2.2.2.2.2.2.1 b.1.2.2.2.2.2.2.2.2.2.2.2.2.1 b.1.2.2.2.2.2.2.2.2.2.2.2.2.2.1 b.2.1.1 b.2.1.2.1 b.2.1.2.2.1 b.2.1.2.2.2.1 b.2.1.2.2.2.2.1 b.2.1.2.2.2.2.2.1 b.2.1.2.2.2.2.2.2.1 b.2.1.2.2.2.2.2.2.2.1 b.2.1.2.2.2.2.2.2.2.2.1 b.2.1.2.2.2.2.2.2.2.2.2.1 b.2.1.2.2.2.2.2.2.2.2.2.2.1 b.2.1.2.2.2.2.2.2.2.2.2.2.2.1 b.2.1.2.2.2.2.2.2.2.2.2.2.2.2.1 b.2.1.2.2.2.2.2.2.2.2.2.2.2.2.2.1 (fun a' b' => some (.inl (a', b'))) fun r => some (.inr r)) p.1 p.2) (x, y)
theorem nl_ref18_Is_6 (x1 : Int) (x2 : Int) (x3 : List Int) (x4 : Int) (x5 : Int) (x6 : Int) (x7 : Int) (x8 : List (Int × Int × ByteArray)) (x9 : ByteArray) (x10 : Int) (x11 : Int) (x12 : Int) (x13 : List Int) (x14 : List (Int × Int × Int)) (x15 : Int) (x16 : Int) (x17 : List Int) (x18 : Int) (x19 : Int) (x20 : Int) (x21 : Int) (x22 : List (Int × Int × ByteArray)) (x23 : ByteArray) (x24 : Int) (x25 : Int) (x26 : Int) (x27 : List Int) (x28 : List (Int × Int × Int)) (x29 : Int) {α : Type} (kn : LT_ref18_Is_6 → LM_ref18_Is_6 → Option α) (kr : LO_ref18_Is_6 → Option α) : ltree_ref18_Is_6 x1 x2 x3 x4 x5 x6 x7 x8 x9 x10 x11 x12 x13 x14 x15 x16 x17 x18 x19 x20 x21 x22 x23 x24 x25 x26 x27 x28 x29 kn kr = (ltree_ref18_Is_6 x1 x2 x3 x4 x5 x6 x7 x8 x9 x10 x11 x12 x13 x14 x15 x16 x17 x18 x19 x20 x21 x22 x23 x24 x25 x26 x27 x28 x29 (fun a b => some (.inl (a, b))) fun r => some (.inr r)).bind (Sum.elim (fun p : LT_ref18_Is_6 × LM_ref18_Is_6 => kn p.1 p.2) kr) := by simp only [ltree_ref18_Is_6, bind_cond, bind_none', bind_some', bind_bind', bind_sum, Sum.elim_inl, Sum.elim_inr]
theorem Le_ref18_Is_6 (x1 : Int) (x2 : Int) (x3 : List Int) (x4 : Int) (x5 : Int) (x6 : Int) (x7 : Int) (x8 : List (Int × Int × ByteArray)) (x9 : ByteArray) (x10 : Int) (x11 : Int) (x12 : Int) (x13 : List Int) (x14 : List (Int × Int × Int)) (x15 : Int) (x16 : Int) (x17 : List Int) (x18 : Int) (x19 : Int) (x20 : Int) (x21 : Int) (x22 : List (Int × Int × ByteArray)) (x23 : ByteArray) (x24 : Int) (x25 : Int) (x26 : Int) (x27 : List Int) (x28 : List (Int × Int × Int)) (x29 : Int) : L_ref18_Is_6 (x1, ()) ((x2, (x3, (x4, (x5, (x6, (x7, (x8, (x9, (x10, (x11, (x12, (x13, (x14, (x15, ())))))))))))))), ((x16, (x17, (x18, (x19, (x20, (x21, (x22, (x23, (x24, (x25, (x26, (x27, (x28, (x29, ())))))))))))))), ())) = ltree_ref18_Is_6 x1 x2 x3 x4 x5 x6 x7 x8 x9 x10 x11 x12 x13 x14 x15 x16 x17 x18 x19 x20 x21 x22 x23 x24 x25 x26 x27 x28 x29 L_ref18_Is_6 some := runL_tree (A := LT_ref18_Is_6) (B := LM_ref18_Is_6) (R := LO_ref18_Is_6) (fun a b kn kr => ltree_ref18_Is_6 a.1 b.1.1 b.1.2.1 b.1.2.2.1 b.1.2.2.2.1 b.1.2.2.2.2.1 b.1.2.2.2.2.2.1 b.1.2.2.2.2.2.2.1 b.1.2.2.2.2.2.2.2.1 b.1.2.2.2.2.2.2.2.2.1 b.1.2.2.2.2.2.2.2.2.2.1 b.1.2.2.2.2.2.2.2.2.2.2.1 b.1.2.2.2.2.2.2.2.2.2.2.2.1 b.1.2.2.2.2.2.2.2.2.2.2.2.2.1 b.1.2.2.2.2.2.2.2.2.2.2.2.2.2.1 b.2.1.1 b.2.1.2.1 b.2.1.2.2.1 b.2.1.2.2.2.1 b.2.1.2.2.2.2.1 b.2.1.2.2.2.2.2.1 b.2.1.2.2.2.2.2.2.1 b.2.1.2.2.2.2.2.2.2.1 b.2.1.2.2.2.2.2.2.2.2.1 b.2.1.2.2.2.2.2.2.2.2.2.1 b.2.1.2.2.2.2.2.2.2.2.2.2.1 b.2.1.2.2.2.2.2.2.2.2.2.2.2.1 b.2.1.2.2.2.2.2.2.2.2.2.2.2.2.1 b.2.1.2.2.2.2.2.2.2.2.2.2.2.2.2.1 kn kr) (fun a b kn kr => nl_ref18_Is_6 a.1 b.1.1 b.1.2.1 b.1.2.2.1 b.1.2.2.2.1 b.1.2.2.2.2.1 b.1.2.2.2.2.2.1 b.1.2.2.2.2.2.2.1 b.1.2.2.2.2.2.2.2.1 b.1.2.2.2.2.2.2.2.2.1 b.1.2.2.2.2.2.2.2.2.2.1 b.1.2.2.2.2.2.2.2.2.2.2.1 b.1.2.2.2.2.2.2.2.2.2.2.2.1 b.1.2.2.2.2.2.2.2.2.2.2.2.2.1 b.1.2.2.2.2.2.2.2.2.2.2.2.2.2.1 b.2.1.1 b.2.1.2.1 b.2.1.2.2.1 b.2.1.2.2.2.1 b.2.1.2.2.2.2.1 b.2.1.2.2.2.2.2.1 b.2.1.2.2.2.2.2.2.1 b.2.1.2.2.2.2.2.2.2.1 b.2.1.2.2.2.2.2.2.2.2.1 b.2.1.2.2.2.2.2.2.2.2.2.1 b.2.1.2.2.2.2.2.2.2.2.2.2.1 b.2.1.2.2.2.2.2.2.2.2.2.2.2.1 b.2.1.2.2.2.2.2.2.2.2.2.2.2.2.1 b.2.1.2.2.2.2.2.2.2.2.2.2.2.2.2.1 kn kr) (x1, ()) ((x2, (x3, (x4, (x5, (x6, (x7, (x8, (x9, (x10, (x11, (x12, (x13, (x14, (x15, ())))))))))))))), ((x16, (x17, (x18, (x19, (x20, (x21, (x22, (x23, (x24, (x25, (x26, (x27, (x28, (x29, ())))))))))))))), ()))
def tree_ref18_Is (F_ref01_Nums : A_ref01_Nums → M_ref01_Nums → Option O_ref01_Nums) (F_ref15_Is : A_ref15_Is → M_ref15_Is → Option O_ref15_Is) (L_ref18_Is_6 : LT_ref18_Is_6 → LM_ref18_Is_6 → Option LO_ref18_Is_6) {α : Type} (x1 : Int) (x2 : List Int) (x3 : Int) (x4 : Int) (x5 : Int) (x6 : Int) (x7 : List (Int × Int × ByteArray)) (x8 : ByteArray) (x9 : Int) (x10 : Int) (x11 : Int) (x12 : List Int) (x13 : List (Int × Int × Int)) (x14 : Int) (x15 : Int) (x16 : List Int) (x17 : Int) (x18 : Int) (x19 : Int) (x20 : Int) (x21 : List (Int × Int × ByteArray)) (x22 : ByteArray) (x23 : Int) (x24 : Int) (x25 : Int) (x26 : List Int) (x27 : List (Int × Int × Int)) (x28 : Int) (K : O_ref18_Is → Option α) : Option α :=
  cond (x1 != x15)
  (K (false, ()))
  ((F_ref01_Nums (x2, x16, ()) ()).bind fun r1 =>
   cond (!r1.fst)
   (K (false, ()))
   (cond (Bool.true ^^ x3 == x17 && (x4 == x18 && Bool.true))
    (K (false, ()))
    ((F_ref15_Is ((x5, x6, x7, ()), (x19, x20, x21, ()), ()) ()).bind fun r2 =>
     cond (!r2.fst)
     (K (false, ()))
     (cond (!x8.toList == x22.toList)
      (K (false, ()))
      (cond (x9 != x23)
       (K (false, ()))
       (cond (x10 != x24)
        (K (false, ()))
        (cond (x11 != x25)
         (K (false, ()))
         ((F_ref01_Nums (x12, x26, ()) ()).bind fun r3 =>
          cond (!r3.fst)
          (K (false, ()))
          (cond (x14 != x28)
           (K (false, ()))
           (cond ((↑x13.length : Int) != (↑x27.length : Int))
            (K (false, ()))
            ((L_ref18_Is_6 (0, ())   ((x1, x2, x3, x4, x5, x6, x7, x8, x9, x10, x11, x12, x13, x14, ()),     (x15, x16, x17, x18, x19, x20, x21, x22, x23, x24, x25, x26, x27, x28, ()), ())).bind fun r4 =>
             Sum.elim (fun u5 =>
              K (u5.fst.fst, ()))
             (fun u5 =>
              K (true, ())) (r4))))))))))))
noncomputable def F_ref18_Is : A_ref18_Is → M_ref18_Is → Option O_ref18_Is := fun a b => tree_ref18_Is F_ref01_Nums F_ref15_Is L_ref18_Is_6 a.1.1 a.1.2.1 a.1.2.2.1 a.1.2.2.2.1 a.1.2.2.2.2.1 a.1.2.2.2.2.2.1 a.1.2.2.2.2.2.2.1 a.1.2.2.2.2.2.2.2.1 a.1.2.2.2.2.2.2.2.2.1 a.1.2.2.2.2.2.2.2.2.2.1 a.1.2.2.2.2.2.2.2.2.2.2.1 a.1.2.2.2.2.2.2.2.2.2.2.2.1 a.1.2.2.2.2.2.2.2.2.2.2.2.2.1 a.1.2.2.2.2.2.2.2.2.2.2.2.2.2.1 a.2.1.1 a.2.1.2.1 a.2.1.2.2.1 a.2.1.2.2.2.1 a.2.1.2.2.2.2.1 a.2.1.2.2.2.2.2.1 a.2.1.2.2.2.2.2.2.1 a.2.1.2.2.2.2.2.2.2.1 a.2.1.2.2.2.2.2.2.2.2.1 a.2.1.2.2.2.2.2.2.2.2.2.1 a.2.1.2.2.2.2.2.2.2.2.2.2.1 a.2.1.2.2.2.2.2.2.2.2.2.2.2.1 a.2.1.2.2.2.2.2.2.2.2.2.2.2.2.1 a.2.1.2.2.2.2.2.2.2.2.2.2.2.2.2.1 some
theorem n_ref18_Is (F_ref01_Nums : A_ref01_Nums → M_ref01_Nums → Option O_ref01_Nums) (F_ref15_Is : A_ref15_Is → M_ref15_Is → Option O_ref15_Is) (L_ref18_Is_6 : LT_ref18_Is_6 → LM_ref18_Is_6 → Option LO_ref18_Is_6) (x1 : Int) (x2 : List Int) (x3 : Int) (x4 : Int) (x5 : Int) (x6 : Int) (x7 : List (Int × Int × ByteArray)) (x8 : ByteArray) (x9 : Int) (x10 : Int) (x11 : Int) (x12 : List Int) (x13 : List (Int × Int × Int)) (x14 : Int) (x15 : Int) (x16 : List Int) (x17 : Int) (x18 : Int) (x19 : Int) (x20 : Int) (x21 : List (Int × Int × ByteArray)) (x22 : ByteArray) (x23 : Int) (x24 : Int) (x25 : Int) (x26 : List Int) (x27 : List (Int × Int × Int)) (x28 : Int) {α : Type} (K : O_ref18_Is → Option α) : tree_ref18_Is F_ref01_Nums F_ref15_Is L_ref18_Is_6 x1 x2 x3 x4 x5 x6 x7 x8 x9 x10 x11 x12 x13 x14 x15 x16 x17 x18 x19 x20 x21 x22 x23 x24 x25 x26 x27 x28 K = (tree_ref18_Is F_ref01_Nums F_ref15_Is L_ref18_Is_6 x1 x2 x3 x4 x5 x6 x7 x8 x9 x10 x11 x12 x13 x14 x15 x16 x17 x18 x19 x20 x21 x22 x23 x24 x25 x26 x27 x28 some).bind K := by simp only [tree_ref18_Is, bind_cond, bind_none', bind_some', bind_bind', bind_sum]
theorem Fe_ref18_Is (x1 : Int) (x2 : List Int) (x3 : Int) (x4 : Int) (x5 : Int) (x6 : Int) (x7 : List (Int × Int × ByteArray)) (x8 : ByteArray) (x9 : Int) (x10 : Int) (x11 : Int) (x12 : List Int) (x13 : List (Int × Int × Int)) (x14 : Int) (x15 : Int) (x16 : List Int) (x17 : Int) (x18 : Int) (x19 : Int) (x20 : Int) (x21 : List (Int × Int × ByteArray)) (x22 : ByteArray) (x23 : Int) (x24 : Int) (x25 : Int) (x26 : List Int) (x27 : List (Int × Int × Int)) (x28 : Int) : F_ref18_Is ((x1, (x2, (x3, (x4, (x5, (x6, (x7, (x8, (x9, (x10, (x11, (x12, (x13, (x14, ())))))))))))))), ((x15, (x16, (x17, (x18, (x19, (x20, (x21, (x22, (x23, (x24, (x25, (x26, (x27, (x28, ())))))))))))))), ())) () = tree_ref18_Is F_ref01_Nums F_ref15_Is L_ref18_Is_6 x1 x2 x3 x4 x5 x6 x7 x8 x9 x10 x11 x12 x13 x14 x15 x16 x17 x18 x19 x20 x21 x22 x23 x24 x25 x26 x27 x28 some := rfl
end Go.Proofs.YtgakbdikappdbaaGreat.S2
