/- Plain forms of the program's functions, by program. -/
import Derived.Test.YtlfedmjjjbhnpaaGlaw22
import Derived.Test.YtlfedmjjjbhnpaaGrstore
set_option maxRecDepth 100000
set_option maxHeartbeats 0
set_option linter.unusedVariables false
set_option linter.unusedSimpArgs false
namespace Go.Proofs.Ytlfedmjjjbhnpaa.S2
open Go
/-! countersign/countersignlaw22.StoreAgain -/
def args_law22_StoreAgain : SkL := (.cons (.leaf (.slc 65 (.cons (.int .i64) (.cons (.int .i64) (.cons (.int .u64) (.cons (.int .u64) (.cons .str (.cons (.slc 3 (.cons (.int .i64) .nil)) .nil)))))))) (.cons (.leaf (.slc 3 (.cons (.int .i64) .nil))) .nil))
def mem_law22_StoreAgain : MSk := []
def outs_law22_StoreAgain : List OutC := [⟨(.leaf .bool), []⟩]
abbrev A_law22_StoreAgain : Type := ((List (Int × Int × Int × Int × ByteArray × List Int)) × List Int × Unit)
abbrev M_law22_StoreAgain : Type := Unit
abbrev O_law22_StoreAgain : Type := Bool × Unit
def ltmps_law22_StoreAgain_6 : SkL := (.cons (.leaf (.slc 65 (.cons (.int .i64) (.cons (.int .i64) (.cons (.int .u64) (.cons (.int .u64) (.cons .str (.cons (.slc 3 (.cons (.int .i64) .nil)) .nil)))))))) (.cons (.leaf (.slc 3 (.cons (.int .i64) .nil))) (.cons (.const .dead) (.cons (.const .dead) (.cons (.const .dead) (.cons (.const (.ptr 1513 0 0)) (.cons (.const (.ptr 1514 0 0)) (.cons (.const .dead) (.cons (.leaf (.int .i64)) (.cons (.const .dead) (.cons (.const .dead) (.cons (.const .dead) (.cons (.const .dead) (.cons (.const .dead) (.cons (.const .dead) (.cons (.const .dead) (.cons (.const .dead) (.cons (.const .dead) (.cons (.const .dead) (.cons (.const .dead) (.cons (.const .dead) (.cons (.const .dead) (.cons (.const .dead) (.cons (.const .dead) (.cons (.const .dead) (.cons (.const .dead) (.cons (.const .dead) (.cons (.const .dead) (.cons (.const .dead) (.cons (.const .dead) (.cons (.const .dead) (.cons (.const .dead) (.cons (.const .dead) (.cons (.const .dead) (.cons (.const .dead) (.cons (.const .dead) (.cons (.const .dead) (.cons (.const .dead) (.cons (.const .dead) (.cons (.const .dead) (.cons (.const .dead) (.cons (.const .dead) (.cons (.const .dead) (.cons (.const .dead) (.cons (.const .dead) (.cons (.const .dead) (.cons (.const .dead) (.cons (.const .dead) (.cons (.const .dead) (.cons (.const .dead) (.cons (.const .dead) (.cons (.const .dead) (.cons (.const .dead) (.cons (.const .dead) (.cons (.const .dead) (.cons (.const .dead) (.cons (.const .dead) (.cons (.const .dead) (.cons (.const .dead) (.cons (.const .dead) (.cons (.const .dead) (.cons (.const .dead) (.cons (.const .dead) (.cons (.const .dead) (.cons (.const .dead) (.cons (.const .dead) (.cons (.const .dead) (.cons (.const .dead) (.cons (.const .dead) (.cons (.const .dead) (.cons (.const .dead) (.cons (.const .dead) (.cons (.const .dead) (.cons (.const .dead) (.cons (.const .dead) (.cons (.const .dead) (.cons (.const .dead) (.cons (.const .dead) (.cons (.const .dead) (.cons (.const .dead) (.cons (.const .dead) (.cons (.const .dead) (.cons (.const .dead) (.cons (.const .dead) (.cons (.const .dead) (.cons (.const .dead) (.cons (.const .dead) (.cons (.const .dead) (.cons (.const .dead) (.cons (.const .dead) (.cons (.const .dead) (.cons (.const .dead) (.cons (.const .dead) (.cons (.const .dead) (.cons (.const .dead) (.cons (.const .dead) .nil))))))))))))))))))))))))))))))))))))))))))))))))))))))))))))))))))))))))))))))))))))))))))))))))
def lmem_law22_StoreAgain_6 : MSk := [(600, .row 127 (.cons (.int .i64) (.cons .str .nil))), (1513, .cells (.cons (.const (.ptr 1514 0 0)) .nil)), (1514, .cells (.cons (.leaf (.int .i64)) (.cons (.const (.slw 1515)) (.cons (.const (.slw 600)) .nil)))), (1515, .row 9 (.cons .str .nil))]
def louts_law22_StoreAgain_6 : List OutL := [⟨(.exit 0), (.cons (.const .dead) (.cons (.leaf (.slc 3 (.cons (.int .i64) .nil))) (.cons (.const .dead) (.cons (.const .dead) (.cons (.const .dead) (.cons (.const (.ptr 1513 0 0)) (.cons (.const (.ptr 1514 0 0)) (.cons (.const .dead) (.cons (.const .dead) (.cons (.const .dead) (.cons (.const .dead) (.cons (.const .dead) (.cons (.const .dead) (.cons (.const .dead) (.cons (.const .dead) (.cons (.const .dead) (.cons (.const .dead) (.cons (.const .dead) (.cons (.const .dead) (.cons (.const .dead) (.cons (.const .dead) (.cons (.const .dead) (.cons (.const .dead) (.cons (.const .dead) (.cons (.const .dead) (.cons (.const .dead) (.cons (.const .dead) (.cons (.const .dead) (.cons (.const .dead) (.cons (.const .dead) (.cons (.const .dead) (.cons (.const .dead) (.cons (.const .dead) (.cons (.const .dead) (.cons (.const .dead) (.cons (.const .dead) (.cons (.const .dead) (.cons (.const .dead) (.cons (.const .dead) (.cons (.const .dead) (.cons (.const .dead) (.cons (.const .dead) (.cons (.const .dead) (.cons (.const .dead) (.cons (.const .dead) (.cons (.const .dead) (.cons (.const .dead) (.cons (.const .dead) (.cons (.const .dead) (.cons (.const .dead) (.cons (.const .dead) (.cons (.const .dead) (.cons (.const .dead) (.cons (.const .dead) (.cons (.const .dead) (.cons (.const .dead) (.cons (.const .dead) (.cons (.const .dead) (.cons (.const .dead) (.cons (.const .dead) (.cons (.const .dead) (.cons (.const .dead) (.cons (.const .dead) (.cons (.const .dead) (.cons (.const .dead) (.cons (.const .dead) (.cons (.const .dead) (.cons (.const .dead) (.cons (.const .dead) (.cons (.const .dead) (.cons (.const .dead) (.cons (.const .dead) (.cons (.const .dead) (.cons (.const .dead) (.cons (.const .dead) (.cons (.const .dead) (.cons (.const .dead) (.cons (.const .dead) (.cons (.const .dead) (.cons (.const .dead) (.cons (.const .dead) (.cons (.const .dead) (.cons (.const .dead) (.cons (.const .dead) (.cons (.const .dead) (.cons (.const .dead) (.cons (.const .dead) (.cons (.const .dead) (.cons (.const .dead) (.cons (.const .dead) (.cons (.const .dead) (.cons (.const .dead) (.cons (.const .dead) (.cons (.const .dead) (.cons (.const .dead) (.cons (.const .dead) .nil)))))))))))))))))))))))))))))))))))))))))))))))))))))))))))))))))))))))))))))))))))))))))))))))), [(600, .row 127 (.cons (.int .i64) (.cons .str .nil))), (1513, .cells (.cons (.const (.ptr 1514 0 0)) .nil)), (1514, .cells (.cons (.leaf (.int .i64)) (.cons (.const (.slw 1515)) (.cons (.const (.slw 600)) .nil)))), (1515, .row 9 (.cons .str .nil))]⟩]
abbrev LT_law22_StoreAgain_6 : Type := ((List (Int × Int × Int × Int × ByteArray × List Int)) × List Int × Int × Unit)
abbrev LM_law22_StoreAgain_6 : Type := ((List (Int × ByteArray)) × Unit × (Int × Unit) × List ByteArray × Unit)
abbrev LO_law22_StoreAgain_6 : Type := (List Int × Unit) × ((List (Int × ByteArray)) × Unit × (Int × Unit) × List ByteArray × Unit)
def ltree_law22_StoreAgain_6 (F_law22_done : A_law22_done → M_law22_done → Option O_law22_done) {α : Type} (x1 : List (Int × Int × Int × Int × ByteArray × List Int)) (x2 : List Int) (x3 : Int) (x4 : List (Int × ByteArray)) (x5 : Int) (x6 : List ByteArray) (kn : LT_law22_StoreAgain_6 → LM_law22_StoreAgain_6 → Option α) (kr : LO_law22_StoreAgain_6 → Option α) : Option α :=
  cond (decide (x3 < (↑x1.length : Int)))
  (cond (decide (x3 < 40))
   (cond (decide (0 ≤ x3))
    (cond (decide (x3 < (↑x1.length : Int)))
     (cond (decide ((x1.getD x3.toNat (0, 0, 0, 0, ByteArray.empty, [])).fst ≥ 0))
      (cond (decide (0 ≤ x3))
       (cond (decide (x3 < (↑x1.length : Int)))
        (cond (decide ((x1.getD x3.toNat (0, 0, 0, 0, ByteArray.empty, [])).fst ≤ 3))
         (cond (decide (0 ≤ x3))
          (cond (decide (x3 < (↑x1.length : Int)))
           ((F_law22_done   (((x1.getD x3.toNat (0, 0, 0, 0, ByteArray.empty, [])).fst,       (x1.getD x3.toNat (0, 0, 0, 0, ByteArray.empty, [])).snd.fst,       (x1.getD x3.toNat (0, 0, 0, 0, ByteArray.empty, [])).snd.snd.fst,       (x1.getD x3.toNat (0, 0, 0, 0, ByteArray.empty, [])).snd.snd.snd.fst,       (x1.getD x3.toNat (0, 0, 0, 0, ByteArray.empty, [])).snd.snd.snd.snd.fst,       (x1.getD x3.toNat (0, 0, 0, 0, ByteArray.empty, [])).snd.snd.snd.snd.snd, ()),     ())   ((), (x5, ()), x6, x4, ())).bind fun r1 =>
            kn (x1, (x2, (IntKind.i64.wrap (x3 + 1), ()))) (r1.snd.snd.snd.snd.snd.fst, ((), ((r1.snd.snd.fst.fst, ()), (r1.snd.snd.snd.fst, ())))))
           (none))
          (none))
         (kn (x1, (x2, (IntKind.i64.wrap (x3 + 1), ()))) (x4, ((), ((x5, ()), (x6, ()))))))
        (none))
       (none))
      (kn (x1, (x2, (IntKind.i64.wrap (x3 + 1), ()))) (x4, ((), ((x5, ()), (x6, ()))))))
     (none))
    (none))
   (kr ((x2, ()), (x4, ((), ((x5, ()), (x6, ())))))))
  (kr ((x2, ()), (x4, ((), ((x5, ()), (x6, ()))))))
noncomputable def L_law22_StoreAgain_6 : LT_law22_StoreAgain_6 → LM_law22_StoreAgain_6 → Option LO_law22_StoreAgain_6 := fun x y => runL (fun p => (fun (a : LT_law22_StoreAgain_6) (b : LM_law22_StoreAgain_6) => ltree_law22_StoreAgain_6 F_law22_done a.1 a.2.1 a.2.2.1 b.1 b.2.2.1.1 b.2.2.2.1 (fun a' b' => some (.inl (a', b'))) fun r => some (.inr r)) p.1 p.2) (x, y)
theorem nl_law22_StoreAgain_6 (F_law22_done : A_law22_done → M_law22_done → Option O_law22_done) (x1 : List (Int × Int × Int × Int × ByteArray × List Int)) (x2 : List Int) (x3 : Int) (x4 : List (Int × ByteArray)) (x5 : Int) (x6 : List ByteArray) {α : Type} (kn : LT_law22_StoreAgain_6 → LM_law22_StoreAgain_6 → Option α) (kr : LO_law22_StoreAgain_6 → Option α) : ltree_law22_StoreAgain_6 F_law22_done x1 x2 x3 x4 x5 x6 kn kr = (ltree_law22_StoreAgain_6 F_law22_done x1 x2 x3 x4 x5 x6 (fun a b => some (.inl (a, b))) fun r => some (.inr r)).bind (Sum.elim (fun p : LT_law22_StoreAgain_6 × LM_law22_StoreAgain_6 => kn p.1 p.2) kr) := by simp only [ltree_law22_StoreAgain_6, bind_cond, bind_none', bind_some', bind_bind', bind_sum, Sum.elim_inl, Sum.elim_inr]
theorem Le_law22_StoreAgain_6 (x1 : List (Int × Int × Int × Int × ByteArray × List Int)) (x2 : List Int) (x3 : Int) (x4 : List (Int × ByteArray)) (x5 : Int) (x6 : List ByteArray) : L_law22_StoreAgain_6 (x1, (x2, (x3, ()))) (x4, ((), ((x5, ()), (x6, ())))) = ltree_law22_StoreAgain_6 F_law22_done x1 x2 x3 x4 x5 x6 L_law22_StoreAgain_6 some := runL_tree (A := LT_law22_StoreAgain_6) (B := LM_law22_StoreAgain_6) (R := LO_law22_StoreAgain_6) (fun a b kn kr => ltree_law22_StoreAgain_6 F_law22_done a.1 a.2.1 a.2.2.1 b.1 b.2.2.1.1 b.2.2.2.1 kn kr) (fun a b kn kr => nl_law22_StoreAgain_6 F_law22_done a.1 a.2.1 a.2.2.1 b.1 b.2.2.1.1 b.2.2.2.1 kn kr) (x1, (x2, (x3, ()))) (x4, ((), ((x5, ()), (x6, ()))))
def tree_law22_StoreAgain (F_law22_made : A_law22_made → M_law22_made → Option O_law22_made) (F_law22_fixed : A_law22_fixed → M_law22_fixed → Option O_law22_fixed) (F_store_Store_Reset : A_store_Store_Reset → M_store_Store_Reset → Option O_store_Store_Reset) (F_store_Store_Trust : A_store_Store_Trust → M_store_Store_Trust → Option O_store_Store_Trust) (F_disk_Disk_Crash : A_disk_Disk_Crash → M_disk_Disk_Crash → Option O_disk_Disk_Crash) (F_store_Open : A_store_Open → M_store_Open → Option O_store_Open) (F_disk_Disk_Pending : A_disk_Disk_Pending → M_disk_Disk_Pending → Option O_disk_Disk_Pending) (L_law22_StoreAgain_6 : LT_law22_StoreAgain_6 → LM_law22_StoreAgain_6 → Option LO_law22_StoreAgain_6) {α : Type} (x1 : List (Int × Int × Int × Int × ByteArray × List Int)) (x2 : List Int) (K : O_law22_StoreAgain → Option α) : Option α :=
  (F_law22_made (2, 128, ()) ()).bind fun r1 =>
  Sum.elim (fun u2 =>
   (F_law22_fixed () ()).bind fun r3 =>
   cond (!r3.fst)
   (K (false, ()))
   ((F_store_Store_Reset (7, ()) ((), (u2.snd.snd.fst.fst, ()), u2.snd.snd.snd.fst, u2.snd.snd.snd.snd.fst, ())).bind fun r4 =>
    (L_law22_StoreAgain_6 (x1, x2, 0, ())   (r4.snd.snd.snd.snd.snd.fst, (), (r4.snd.snd.fst.fst, ()), r4.snd.snd.snd.fst, ())).bind fun r5 =>
    (F_store_Store_Trust () ((), (r5.snd.snd.snd.fst.fst, ()), r5.snd.snd.snd.snd.fst, r5.snd.fst, ())).bind fun r6 =>
    (F_disk_Disk_Crash (r5.fst.fst, ())   ((r5.snd.snd.snd.fst.fst, ()), r5.snd.snd.snd.snd.fst, r5.snd.fst, ())).bind fun r7 =>
    (F_store_Open () ((r7.snd.fst.fst, ()), r7.snd.snd.fst, r7.snd.snd.snd.snd.fst, ())).bind fun r8 =>
    Sum.elim (fun u9 =>
     K (false, ()))
    (fun u9 =>
     (F_store_Store_Trust () ((), (u9.snd.fst.fst, ()), u9.snd.snd.fst, u9.snd.snd.snd.fst, ())).bind fun r10 =>
     cond (r6.fst.snd.fst)
     (cond (r10.fst.snd.fst)
      (cond (Bool.false ^^   r6.fst.fst.fst == r10.fst.fst.fst &&     (r6.fst.fst.snd.fst == r10.fst.fst.snd.fst &&       (r6.fst.fst.snd.snd.fst == r10.fst.fst.snd.snd.fst &&         (r6.fst.fst.snd.snd.snd.fst == r10.fst.fst.snd.snd.snd.fst &&           (r6.fst.fst.snd.snd.snd.snd.fst == r10.fst.fst.snd.snd.snd.snd.fst &&             (r6.fst.fst.snd.snd.snd.snd.snd.fst.toList == r10.fst.fst.snd.snd.snd.snd.snd.fst.toList && Bool.true))))))
       ((F_disk_Disk_Pending () ((u9.snd.fst.fst, ()), u9.snd.snd.fst, u9.snd.snd.snd.fst, ())).bind fun r11 =>
        K (r11.fst == 0, ()))
       (K (false, ())))
      (K (false, ())))
     (K (false, ()))) (r8)))
  (fun u2 =>
   Sum.elim (fun u12 =>
    (F_law22_fixed () ()).bind fun r13 =>
    cond (!r13.fst)
    (K (false, ()))
    (K (false, ())))
   (fun u12 =>
    (F_law22_fixed () ()).bind fun r14 =>
    cond (!r14.fst)
    (K (false, ()))
    (K (false, ()))) (u2)) (r1)
noncomputable def F_law22_StoreAgain : A_law22_StoreAgain → M_law22_StoreAgain → Option O_law22_StoreAgain := fun a b => tree_law22_StoreAgain F_law22_made F_law22_fixed F_store_Store_Reset F_store_Store_Trust F_disk_Disk_Crash F_store_Open F_disk_Disk_Pending L_law22_StoreAgain_6 a.1 a.2.1 some
theorem n_law22_StoreAgain (F_law22_made : A_law22_made → M_law22_made → Option O_law22_made) (F_law22_fixed : A_law22_fixed → M_law22_fixed → Option O_law22_fixed) (F_store_Store_Reset : A_store_Store_Reset → M_store_Store_Reset → Option O_store_Store_Reset) (F_store_Store_Trust : A_store_Store_Trust → M_store_Store_Trust → Option O_store_Store_Trust) (F_disk_Disk_Crash : A_disk_Disk_Crash → M_disk_Disk_Crash → Option O_disk_Disk_Crash) (F_store_Open : A_store_Open → M_store_Open → Option O_store_Open) (F_disk_Disk_Pending : A_disk_Disk_Pending → M_disk_Disk_Pending → Option O_disk_Disk_Pending) (L_law22_StoreAgain_6 : LT_law22_StoreAgain_6 → LM_law22_StoreAgain_6 → Option LO_law22_StoreAgain_6) (x1 : List (Int × Int × Int × Int × ByteArray × List Int)) (x2 : List Int) {α : Type} (K : O_law22_StoreAgain → Option α) : tree_law22_StoreAgain F_law22_made F_law22_fixed F_store_Store_Reset F_store_Store_Trust F_disk_Disk_Crash F_store_Open F_disk_Disk_Pending L_law22_StoreAgain_6 x1 x2 K = (tree_law22_StoreAgain F_law22_made F_law22_fixed F_store_Store_Reset F_store_Store_Trust F_disk_Disk_Crash F_store_Open F_disk_Disk_Pending L_law22_StoreAgain_6 x1 x2 some).bind K := by simp only [tree_law22_StoreAgain, bind_cond, bind_none', bind_some', bind_bind', bind_sum]
theorem Fe_law22_StoreAgain (x1 : List (Int × Int × Int × Int × ByteArray × List Int)) (x2 : List Int) : F_law22_StoreAgain (x1, (x2, ())) () = tree_law22_StoreAgain F_law22_made F_law22_fixed F_store_Store_Reset F_store_Store_Trust F_disk_Disk_Crash F_store_Open F_disk_Disk_Pending L_law22_StoreAgain_6 x1 x2 some := rfl

end Go.Proofs.Ytlfedmjjjbhnpaa.S2
