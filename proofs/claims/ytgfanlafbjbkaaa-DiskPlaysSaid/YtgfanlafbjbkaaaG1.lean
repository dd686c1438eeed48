/- Plain forms of the program's functions, by program. -/
import Derived.Test.YtgfanlafbjbkaaaG0
set_option maxRecDepth 100000
set_option maxHeartbeats 0
set_option linter.unusedVariables false
set_option linter.unusedSimpArgs false
namespace Go.Proofs.Ytgfanlafbjbkaaa.S2
open Go
/-! countersign/countersignref08.New -/
def args_ref08_New : SkL := (.cons (.leaf (.int .i64)) (.cons (.leaf (.int .i64)) .nil))
def mem_ref08_New : MSk := []
def outs_ref08_New : List OutC := [⟨(.tup (.cons (.const .nilp) (.cons (.const (.bool Bool.false)) .nil))), []⟩, ⟨(.tup (.cons (.const (.ptr 0 0 0)) (.cons (.const (.bool Bool.true)) .nil))), [(0, .cells (.cons (.leaf (.int .i64)) (.cons (.const (.slw 1)) (.cons (.const (.slw 2)) .nil)))), (1, .row 9 (.cons .str .nil)), (2, .row 36 (.cons (.int .i64) (.cons (.int .i64) (.cons .str (.cons (.slc 3 (.cons (.int .i64) .nil)) .nil)))))]⟩]
abbrev A_ref08_New : Type := (Int × Int × Unit)
abbrev M_ref08_New : Type := Unit
abbrev O_ref08_New : Type := (Unit × Unit) ⊕ (Unit × ((Int × Unit) × List ByteArray × (List (Int × Int × ByteArray × List Int)) × Unit))
def ltmps_ref08_New_5 : SkL := (.cons (.leaf (.int .i64)) (.cons (.leaf (.int .i64)) (.cons (.const .dead) (.cons (.const .dead) (.cons (.const .dead) (.cons (.const .dead) (.cons (.const (.ptr 1768 0 0)) (.cons (.leaf (.int .i64)) (.cons (.const .dead) (.cons (.const .dead) (.cons (.const .dead) (.cons (.const .dead) (.cons (.const .dead) (.cons (.const .dead) (.cons (.const .dead) (.cons (.const .dead) (.cons (.const .dead) (.cons (.const .dead) (.cons (.const .dead) (.cons (.const .dead) (.cons (.const .dead) (.cons (.const .dead) (.cons (.const .dead) (.cons (.const .dead) (.cons (.const .dead) (.cons (.const .dead) (.cons (.const .dead) (.cons (.const .dead) (.cons (.const .dead) (.cons (.const .dead) (.cons (.const .dead) (.cons (.const .dead) (.cons (.const .dead) (.cons (.const .dead) (.cons (.const .dead) (.cons (.const .dead) (.cons (.const .dead) (.cons (.const .dead) (.cons (.const .dead) (.cons (.const .dead) (.cons (.const .dead) (.cons (.const .dead) .nil))))))))))))))))))))))))))))))))))))))))))
def lmem_ref08_New_5 : MSk := [(501, .row 9 (.cons .str .nil)), (1768, .cells (.cons (.leaf (.int .i64)) (.cons (.const (.slw 501)) (.cons (.const .nils) .nil))))]
def louts_ref08_New_5 : List OutL := [⟨(.exit 0), (.cons (.const .dead) (.cons (.const .dead) (.cons (.const .dead) (.cons (.const .dead) (.cons (.const .dead) (.cons (.const .dead) (.cons (.const (.ptr 1768 0 0)) (.cons (.const .dead) (.cons (.const .dead) (.cons (.const .dead) (.cons (.const .dead) (.cons (.const .dead) (.cons (.const .dead) (.cons (.const .dead) (.cons (.const .dead) (.cons (.const .dead) (.cons (.const .dead) (.cons (.const .dead) (.cons (.const .dead) (.cons (.const .dead) (.cons (.const .dead) (.cons (.const .dead) (.cons (.const .dead) (.cons (.const .dead) (.cons (.const .dead) (.cons (.const .dead) (.cons (.const .dead) (.cons (.const .dead) (.cons (.const .dead) (.cons (.const .dead) (.cons (.const .dead) (.cons (.const .dead) (.cons (.const .dead) (.cons (.const .dead) (.cons (.const .dead) (.cons (.const .dead) (.cons (.const .dead) (.cons (.const .dead) (.cons (.const .dead) (.cons (.const .dead) (.cons (.const .dead) (.cons (.const .dead) .nil)))))))))))))))))))))))))))))))))))))))))), [(501, .row 9 (.cons .str .nil)), (1768, .cells (.cons (.leaf (.int .i64)) (.cons (.const (.slw 501)) (.cons (.const .nils) .nil))))]⟩]
abbrev LT_ref08_New_5 : Type := (Int × Int × Int × Unit)
abbrev LM_ref08_New_5 : Type := (List ByteArray × (Int × Unit) × Unit)
abbrev LO_ref08_New_5 : Type := Unit × (List ByteArray × (Int × Unit) × Unit)
def ltree_ref08_New_5 (F_ref08_Zeros : A_ref08_Zeros → M_ref08_Zeros → Option O_ref08_Zeros) {α : Type} (x1 : Int) (x2 : Int) (x3 : Int) (x4 : List ByteArray) (x5 : Int) (kn : LT_ref08_New_5 → LM_ref08_New_5 → Option α) (kr : LO_ref08_New_5 → Option α) : Option α :=
  cond (decide (x3 < x1))
  ((F_ref08_Zeros (x2, ()) ()).bind fun r1 =>
   cond (decide ((x4.length + 1) * 16 ≤ 140737488355328))
   (kn (x1, (x2, (IntKind.i64.wrap (x3 + 1), ()))) (x4 ++ ([] ++ [r1.fst]), ((x5, ()), ())))
   (none))
  (kr ((), (x4, ((x5, ()), ()))))
noncomputable def L_ref08_New_5 : LT_ref08_New_5 → LM_ref08_New_5 → Option LO_ref08_New_5 := fun x y => runL (fun p => (fun (a : LT_ref08_New_5) (b : LM_ref08_New_5) => ltree_ref08_New_5 F_ref08_Zeros a.1 a.2.1 a.2.2.1 b.1 b.2.1.1 (fun a' b' => some (.inl (a', b'))) fun r => some (.inr r)) p.1 p.2) (x, y)
theorem nl_ref08_New_5 (F_ref08_Zeros : A_ref08_Zeros → M_ref08_Zeros → Option O_ref08_Zeros) (x1 : Int) (x2 : Int) (x3 : Int) (x4 : List ByteArray) (x5 : Int) {α : Type} (kn : LT_ref08_New_5 → LM_ref08_New_5 → Option α) (kr : LO_ref08_New_5 → Option α) : ltree_ref08_New_5 F_ref08_Zeros x1 x2 x3 x4 x5 kn kr = (ltree_ref08_New_5 F_ref08_Zeros x1 x2 x3 x4 x5 (fun a b => some (.inl (a, b))) fun r => some (.inr r)).bind (Sum.elim (fun p : LT_ref08_New_5 × LM_ref08_New_5 => kn p.1 p.2) kr) := by simp only [ltree_ref08_New_5, bind_cond, bind_none', bind_some', bind_bind', bind_sum, Sum.elim_inl, Sum.elim_inr]
theorem Le_ref08_New_5 (x1 : Int) (x2 : Int) (x3 : Int) (x4 : List ByteArray) (x5 : Int) : L_ref08_New_5 (x1, (x2, (x3, ()))) (x4, ((x5, ()), ())) = ltree_ref08_New_5 F_ref08_Zeros x1 x2 x3 x4 x5 L_ref08_New_5 some := runL_tree (A := LT_ref08_New_5) (B := LM_ref08_New_5) (R := LO_ref08_New_5) (fun a b kn kr => ltree_ref08_New_5 F_ref08_Zeros a.1 a.2.1 a.2.2.1 b.1 b.2.1.1 kn kr) (fun a b kn kr => nl_ref08_New_5 F_ref08_Zeros a.1 a.2.1 a.2.2.1 b.1 b.2.1.1 kn kr) (x1, (x2, (x3, ()))) (x4, ((x5, ()), ()))
def tree_ref08_New (L_ref08_New_5 : LT_ref08_New_5 → LM_ref08_New_5 → Option LO_ref08_New_5) {α : Type} (x1 : Int) (x2 : Int) (K : O_ref08_New → Option α) : Option α :=
  cond (decide (x1 < 1))
  (K (.inl ((), ())))
  (cond (decide (x1 > 256))
   (K (.inl ((), ())))
   (cond (decide (x2 < 32))
    (K (.inl ((), ())))
    (cond (decide (x2 > 512))
     (K (.inl ((), ())))
     ((L_ref08_New_5 (x1, x2, 0, ()) ([], (x2, ()), ())).bind fun r1 =>
      K (.inr ((), ((r1.snd.snd.fst.fst, ()), (r1.snd.fst, ([], ())))))))))
noncomputable def F_ref08_New : A_ref08_New → M_ref08_New → Option O_ref08_New := fun a b => tree_ref08_New L_ref08_New_5 a.1 a.2.1 some
theorem n_ref08_New (L_ref08_New_5 : LT_ref08_New_5 → LM_ref08_New_5 → Option LO_ref08_New_5) (x1 : Int) (x2 : Int) {α : Type} (K : O_ref08_New → Option α) : tree_ref08_New L_ref08_New_5 x1 x2 K = (tree_ref08_New L_ref08_New_5 x1 x2 some).bind K := by simp only [tree_ref08_New, bind_cond, bind_none', bind_some', bind_bind', bind_sum]
theorem Fe_ref08_New (x1 : Int) (x2 : Int) : F_ref08_New (x1, (x2, ())) () = tree_ref08_New L_ref08_New_5 x1 x2 some := rfl

/-! (*countersign/countersignref08.Disk).Write -/
def args_ref08_Disk_Write : SkL := (.cons (.const (.ptr 0 0 0)) (.cons (.leaf (.int .i64)) (.cons (.leaf .str) .nil)))
def mem_ref08_Disk_Write : MSk := [(0, .cells (.cons (.leaf (.int .i64)) (.cons (.const (.slw 1)) (.cons (.const (.slw 2)) .nil)))), (1, .row 9 (.cons .str .nil)), (2, .row 36 (.cons (.int .i64) (.cons (.int .i64) (.cons .str (.cons (.slc 3 (.cons (.int .i64) .nil)) .nil)))))]
def outs_ref08_Disk_Write : List OutC := [⟨(.leaf .bool), [(0, .cells (.cons (.leaf (.int .i64)) (.cons (.const (.slw 1)) (.cons (.const (.slw 3)) .nil)))), (1, .row 9 (.cons .str .nil)), (2, .gone), (3, .row 36 (.cons (.int .i64) (.cons (.int .i64) (.cons .str (.cons (.slc 3 (.cons (.int .i64) .nil)) .nil)))))]⟩]
abbrev A_ref08_Disk_Write : Type := (Int × ByteArray × Unit)
abbrev M_ref08_Disk_Write : Type := ((Int × Unit) × List ByteArray × (List (Int × Int × ByteArray × List Int)) × Unit)
abbrev O_ref08_Disk_Write : Type := Bool × ((Int × Unit) × List ByteArray × Unit × (List (Int × Int × ByteArray × List Int)) × Unit)
def tree_ref08_Disk_Write (F_ref08_Zeros : A_ref08_Zeros → M_ref08_Zeros → Option O_ref08_Zeros) {α : Type} (x1 : Int) (x2 : ByteArray) (x3 : Int) (x4 : List ByteArray) (x5 : List (Int × Int × ByteArray × List Int)) (K : O_ref08_Disk_Write → Option α) : Option α :=
  cond (decide (x1 < 0))
  (K (false, ((x3, ()), (x4, ((), (x5, ()))))))
  (cond (decide (x1 ≥ (↑x4.length : Int)))
   (K (false, ((x3, ()), (x4, ((), (x5, ()))))))
   (cond (decide ((↑x2.size : Int) > x3))
    (K (false, ((x3, ()), (x4, ((), (x5, ()))))))
    ((F_ref08_Zeros (IntKind.i64.wrap (x3 - (↑x2.size : Int)), ()) ()).bind fun r1 =>
     cond (decide (x2.size + r1.fst.size ≤ 9223372036854775807))
     (cond (decide ((x5.length + 1) * 56 ≤ 140737488355328))
      (K (true, ((x3, ()), (x4, ((), (x5 ++ ([] ++ [(0, x1, x2 ++ r1.fst, [])]), ()))))))
      (none))
     (none))))
noncomputable def F_ref08_Disk_Write : A_ref08_Disk_Write → M_ref08_Disk_Write → Option O_ref08_Disk_Write := fun a b => tree_ref08_Disk_Write F_ref08_Zeros a.1 a.2.1 b.1.1 b.2.1 b.2.2.1 some
theorem n_ref08_Disk_Write (F_ref08_Zeros : A_ref08_Zeros → M_ref08_Zeros → Option O_ref08_Zeros) (x1 : Int) (x2 : ByteArray) (x3 : Int) (x4 : List ByteArray) (x5 : List (Int × Int × ByteArray × List Int)) {α : Type} (K : O_ref08_Disk_Write → Option α) : tree_ref08_Disk_Write F_ref08_Zeros x1 x2 x3 x4 x5 K = (tree_ref08_Disk_Write F_ref08_Zeros x1 x2 x3 x4 x5 some).bind K := by simp only [tree_ref08_Disk_Write, bind_cond, bind_none', bind_some', bind_bind', bind_sum]
theorem Fe_ref08_Disk_Write (x1 : Int) (x2 : ByteArray) (x3 : Int) (x4 : List ByteArray) (x5 : List (Int × Int × ByteArray × List Int)) : F_ref08_Disk_Write (x1, (x2, ())) ((x3, ()), (x4, (x5, ()))) = tree_ref08_Disk_Write F_ref08_Zeros x1 x2 x3 x4 x5 some := rfl

/-! (*countersign/countersignref08.Disk).Crash -/
def args_ref08_Disk_Crash : SkL := (.cons (.const (.ptr 0 0 0)) (.cons (.leaf (.slc 3 (.cons (.int .i64) .nil))) .nil))
def mem_ref08_Disk_Crash : MSk := [(0, .cells (.cons (.leaf (.int .i64)) (.cons (.const (.slw 1)) (.cons (.const (.slw 2)) .nil)))), (1, .row 9 (.cons .str .nil)), (2, .row 36 (.cons (.int .i64) (.cons (.int .i64) (.cons .str (.cons (.slc 3 (.cons (.int .i64) .nil)) .nil)))))]
def outs_ref08_Disk_Crash : List OutC := [⟨(.tup .nil), [(0, .cells (.cons (.leaf (.int .i64)) (.cons (.const (.slw 1)) (.cons (.const (.slw 3)) .nil)))), (1, .row 9 (.cons .str .nil)), (2, .gone), (3, .row 36 (.cons (.int .i64) (.cons (.int .i64) (.cons .str (.cons (.slc 3 (.cons (.int .i64) .nil)) .nil)))))]⟩]
abbrev A_ref08_Disk_Crash : Type := (List Int × Unit)
abbrev M_ref08_Disk_Crash : Type := ((Int × Unit) × List ByteArray × (List (Int × Int × ByteArray × List Int)) × Unit)
abbrev O_ref08_Disk_Crash : Type := Unit × ((Int × Unit) × List ByteArray × Unit × (List (Int × Int × ByteArray × List Int)) × Unit)
def ltmps_ref08_Disk_Crash_1 : SkL := (.cons (.const (.ptr 0 0 0)) (.cons (.leaf (.slc 3 (.cons (.int .i64) .nil))) (.cons (.const .dead) (.cons (.const .dead) (.cons (.leaf (.int .i64)) (.cons (.const .dead) (.cons (.const .dead) (.cons (.const .dead) (.cons (.const .dead) (.cons (.const .dead) (.cons (.const .dead) (.cons (.const .dead) (.cons (.const .dead) (.cons (.const .dead) (.cons (.const .dead) (.cons (.const .dead) (.cons (.const .dead) (.cons (.const .dead) (.cons (.const .dead) (.cons (.const .dead) (.cons (.const .dead) (.cons (.const .dead) (.cons (.const .dead) (.cons (.const .dead) (.cons (.const .dead) (.cons (.const .dead) (.cons (.const .dead) (.cons (.const .dead) (.cons (.const .dead) (.cons (.const .dead) (.cons (.const .dead) (.cons (.const .dead) (.cons (.const .dead) (.cons (.const .dead) (.cons (.const .dead) (.cons (.const .dead) (.cons (.const .dead) (.cons (.const .dead) (.cons (.const .dead) (.cons (.const .dead) (.cons (.const .dead) (.cons (.const .dead) (.cons (.const .dead) (.cons (.const .dead) (.cons (.const .dead) (.cons (.const .dead) (.cons (.const .dead) (.cons (.const .dead) (.cons (.const .dead) (.cons (.const .dead) (.cons (.const .dead) (.cons (.const .dead) (.cons (.const .dead) (.cons (.const .dead) (.cons (.const .dead) (.cons (.const .dead) (.cons (.const .dead) (.cons (.const .dead) (.cons (.const .dead) (.cons (.const .dead) (.cons (.const .dead) (.cons (.const .dead) (.cons (.const .dead) (.cons (.const .dead) (.cons (.const .dead) (.cons (.const .dead) (.cons (.const .dead) (.cons (.const .dead) .nil))))))))))))))))))))))))))))))))))))))))))))))))))))))))))))))))))))
def lmem_ref08_Disk_Crash_1 : MSk := [(0, .cells (.cons (.leaf (.int .i64)) (.cons (.const (.slw 1)) (.cons (.const (.slw 2)) .nil)))), (1, .row 9 (.cons .str .nil)), (2, .row 36 (.cons (.int .i64) (.cons (.int .i64) (.cons .str (.cons (.slc 3 (.cons (.int .i64) .nil)) .nil)))))]
def louts_ref08_Disk_Crash_1 : List OutL := [⟨(.exit 0), (.cons (.const (.ptr 0 0 0)) (.cons (.const .dead) (.cons (.const .dead) (.cons (.const .dead) (.cons (.const .dead) (.cons (.const .dead) (.cons (.const .dead) (.cons (.const .dead) (.cons (.const .dead) (.cons (.const .dead) (.cons (.const .dead) (.cons (.const .dead) (.cons (.const .dead) (.cons (.const .dead) (.cons (.const .dead) (.cons (.const .dead) (.cons (.const .dead) (.cons (.const .dead) (.cons (.const .dead) (.cons (.const .dead) (.cons (.const .dead) (.cons (.const .dead) (.cons (.const .dead) (.cons (.const .dead) (.cons (.const .dead) (.cons (.const .dead) (.cons (.const .dead) (.cons (.const .dead) (.cons (.const .dead) (.cons (.const .dead) (.cons (.const .dead) (.cons (.const .dead) (.cons (.const .dead) (.cons (.const .dead) (.cons (.const .dead) (.cons (.const .dead) (.cons (.const .dead) (.cons (.const .dead) (.cons (.const .dead) (.cons (.const .dead) (.cons (.const .dead) (.cons (.const .dead) (.cons (.const .dead) (.cons (.const .dead) (.cons (.const .dead) (.cons (.const .dead) (.cons (.const .dead) (.cons (.const .dead) (.cons (.const .dead) (.cons (.const .dead) (.cons (.const .dead) (.cons (.const .dead) (.cons (.const .dead) (.cons (.const .dead) (.cons (.const .dead) (.cons (.const .dead) (.cons (.const .dead) (.cons (.const .dead) (.cons (.const .dead) (.cons (.const .dead) (.cons (.const .dead) (.cons (.const .dead) (.cons (.const .dead) (.cons (.const .dead) (.cons (.const .dead) (.cons (.const .dead) (.cons (.const .dead) (.cons (.const .dead) .nil)))))))))))))))))))))))))))))))))))))))))))))))))))))))))))))))))))), [(0, .cells (.cons (.leaf (.int .i64)) (.cons (.const (.slw 1)) (.cons (.const (.slw 2)) .nil)))), (1, .row 9 (.cons .str .nil)), (2, .row 36 (.cons (.int .i64) (.cons (.int .i64) (.cons .str (.cons (.slc 3 (.cons (.int .i64) .nil)) .nil)))))]⟩]
abbrev LT_ref08_Disk_Crash_1 : Type := (List Int × Int × Unit)
abbrev LM_ref08_Disk_Crash_1 : Type := ((Int × Unit) × List ByteArray × (List (Int × Int × ByteArray × List Int)) × Unit)
abbrev LO_ref08_Disk_Crash_1 : Type := Unit × ((Int × Unit) × List ByteArray × (List (Int × Int × ByteArray × List Int)) × Unit)
def ltree_ref08_Disk_Crash_1 {α : Type} (x1 : List Int) (x2 : Int) (x3 : Int) (x4 : List ByteArray) (x5 : List (Int × Int × ByteArray × List Int)) (kn : LT_ref08_Disk_Crash_1 → LM_ref08_Disk_Crash_1 → Option α) (kr : LO_ref08_Disk_Crash_1 → Option α) : Option α :=
  cond (decide (x2 < (↑x5.length : Int)))
  (cond (decide (x2 < (↑x1.length : Int)))
   (cond (decide (0 ≤ x2))
    (cond (decide (x2 < (↑x1.length : Int)))
     (cond (decide (x1.getD x2.toNat 0 < 0))
      (cond (decide (0 > x3))
       (cond (decide (0 ≤ x2))
        (cond (decide (x2 < (↑x5.length : Int)))
         (cond (decide (0 ≤ x3))
          (cond (decide (x3 ≤ (↑(x5.getD (0 + x2.toNat) (0, 0, ByteArray.empty, [])).snd.snd.fst.size : Int)))
           (cond (decide (0 ≤ (x5.getD (0 + x2.toNat) (0, 0, ByteArray.empty, [])).snd.fst))
            (cond (decide ((x5.getD (0 + x2.toNat) (0, 0, ByteArray.empty, [])).snd.fst < (↑x4.length : Int)))
             (cond (decide (0 ≤ x3))
              (cond (decide   (x3 ≤     (↑(x4.getD (0 + (x5.getD (0 + x2.toNat) (0, 0, ByteArray.empty, [])).snd.fst.toNat) ByteArray.empty).size : Int)))
               (cond (decide   (((x5.getD (0 + x2.toNat) (0, 0, ByteArray.empty, [])).snd.snd.fst.extract 0 x3.toNat).size +       ((x4.getD (0 + (x5.getD (0 + x2.toNat) (0, 0, ByteArray.empty, [])).snd.fst.toNat) ByteArray.empty).extract           x3.toNat           (x4.getD (0 + (x5.getD (0 + x2.toNat) (0, 0, ByteArray.empty, [])).snd.fst.toNat)               ByteArray.empty).size).size ≤     9223372036854775807))
                (cond (decide (0 ≤ (x5.getD (0 + x2.toNat) (0, 0, ByteArray.empty, [])).snd.fst))
                 (cond (decide ((x5.getD (0 + x2.toNat) (0, 0, ByteArray.empty, [])).snd.fst < (↑x4.length : Int)))
                  (kn (x1, (IntKind.i64.wrap (x2 + 1), ())) ((x3, ()), (x4.set (0 + (x5.getD (0 + x2.toNat) (0, 0, ByteArray.empty, [])).snd.fst.toNat)   ((x5.getD (0 + x2.toNat) (0, 0, ByteArray.empty, [])).snd.snd.fst.extract 0 x3.toNat ++     (x4.getD (0 + (x5.getD (0 + x2.toNat) (0, 0, ByteArray.empty, [])).snd.fst.toNat) ByteArray.empty).extract x3.toNat       (x4.getD (0 + (x5.getD (0 + x2.toNat) (0, 0, ByteArray.empty, [])).snd.fst.toNat) ByteArray.empty).size), (x5, ()))))
                  (none))
                 (none))
                (none))
               (none))
              (none))
             (none))
            (none))
           (none))
          (none))
         (none))
        (none))
       (cond (decide (0 ≤ x2))
        (cond (decide (x2 < (↑x5.length : Int)))
         (cond (decide (0 ≤ (x5.getD (0 + x2.toNat) (0, 0, ByteArray.empty, [])).snd.fst))
          (cond (decide ((x5.getD (0 + x2.toNat) (0, 0, ByteArray.empty, [])).snd.fst < (↑x4.length : Int)))
           (cond (decide   (((x5.getD (0 + x2.toNat) (0, 0, ByteArray.empty, [])).snd.snd.fst.extract 0 0).size +       ((x4.getD (0 + (x5.getD (0 + x2.toNat) (0, 0, ByteArray.empty, [])).snd.fst.toNat) ByteArray.empty).extract 0           (x4.getD (0 + (x5.getD (0 + x2.toNat) (0, 0, ByteArray.empty, [])).snd.fst.toNat)               ByteArray.empty).size).size ≤     9223372036854775807))
            (cond (decide (0 ≤ (x5.getD (0 + x2.toNat) (0, 0, ByteArray.empty, [])).snd.fst))
             (cond (decide ((x5.getD (0 + x2.toNat) (0, 0, ByteArray.empty, [])).snd.fst < (↑x4.length : Int)))
              (kn (x1, (IntKind.i64.wrap (x2 + 1), ())) ((x3, ()), (x4.set (0 + (x5.getD (0 + x2.toNat) (0, 0, ByteArray.empty, [])).snd.fst.toNat)   ((x5.getD (0 + x2.toNat) (0, 0, ByteArray.empty, [])).snd.snd.fst.extract 0 0 ++     (x4.getD (0 + (x5.getD (0 + x2.toNat) (0, 0, ByteArray.empty, [])).snd.fst.toNat) ByteArray.empty).extract 0       (x4.getD (0 + (x5.getD (0 + x2.toNat) (0, 0, ByteArray.empty, [])).snd.fst.toNat) ByteArray.empty).size), (x5, ()))))
              (none))
             (none))
            (none))
           (none))
          (none))
         (none))
        (none)))
      (cond (decide (x1.getD x2.toNat 0 > x3))
       (cond (decide (0 ≤ x2))
        (cond (decide (x2 < (↑x5.length : Int)))
         (cond (decide (0 ≤ x3))
          (cond (decide (x3 ≤ (↑(x5.getD (0 + x2.toNat) (0, 0, ByteArray.empty, [])).snd.snd.fst.size : Int)))
           (cond (decide (0 ≤ (x5.getD (0 + x2.toNat) (0, 0, ByteArray.empty, [])).snd.fst))
            (cond (decide ((x5.getD (0 + x2.toNat) (0, 0, ByteArray.empty, [])).snd.fst < (↑x4.length : Int)))
             (cond (decide (0 ≤ x3))
              (cond (decide   (x3 ≤     (↑(x4.getD (0 + (x5.getD (0 + x2.toNat) (0, 0, ByteArray.empty, [])).snd.fst.toNat) ByteArray.empty).size : Int)))
               (cond (decide   (((x5.getD (0 + x2.toNat) (0, 0, ByteArray.empty, [])).snd.snd.fst.extract 0 x3.toNat).size +       ((x4.getD (0 + (x5.getD (0 + x2.toNat) (0, 0, ByteArray.empty, [])).snd.fst.toNat) ByteArray.empty).extract           x3.toNat           (x4.getD (0 + (x5.getD (0 + x2.toNat) (0, 0, ByteArray.empty, [])).snd.fst.toNat)               ByteArray.empty).size).size ≤     9223372036854775807))
                (cond (decide (0 ≤ (x5.getD (0 + x2.toNat) (0, 0, ByteArray.empty, [])).snd.fst))
                 (cond (decide ((x5.getD (0 + x2.toNat) (0, 0, ByteArray.empty, [])).snd.fst < (↑x4.length : Int)))
                  (kn (x1, (IntKind.i64.wrap (x2 + 1), ())) ((x3, ()), (x4.set (0 + (x5.getD (0 + x2.toNat) (0, 0, ByteArray.empty, [])).snd.fst.toNat)   ((x5.getD (0 + x2.toNat) (0, 0, ByteArray.empty, [])).snd.snd.fst.extract 0 x3.toNat ++     (x4.getD (0 + (x5.getD (0 + x2.toNat) (0, 0, ByteArray.empty, [])).snd.fst.toNat) ByteArray.empty).extract x3.toNat       (x4.getD (0 + (x5.getD (0 + x2.toNat) (0, 0, ByteArray.empty, [])).snd.fst.toNat) ByteArray.empty).size), (x5, ()))))
                  (none))
                 (none))
                (none))
               (none))
              (none))
             (none))
            (none))
           (none))
          (none))
         (none))
        (none))
       (cond (decide (0 ≤ x2))
        (cond (decide (x2 < (↑x5.length : Int)))
         (cond (decide (0 ≤ x1.getD x2.toNat 0))
          (cond (decide (x1.getD x2.toNat 0 ≤ (↑(x5.getD (0 + x2.toNat) (0, 0, ByteArray.empty, [])).snd.snd.fst.size : Int)))
           (cond (decide (0 ≤ (x5.getD (0 + x2.toNat) (0, 0, ByteArray.empty, [])).snd.fst))
            (cond (decide ((x5.getD (0 + x2.toNat) (0, 0, ByteArray.empty, [])).snd.fst < (↑x4.length : Int)))
             (cond (decide (0 ≤ x1.getD x2.toNat 0))
              (cond (decide   (x1.getD x2.toNat 0 ≤     (↑(x4.getD (0 + (x5.getD (0 + x2.toNat) (0, 0, ByteArray.empty, [])).snd.fst.toNat) ByteArray.empty).size : Int)))
               (cond (decide   (((x5.getD (0 + x2.toNat) (0, 0, ByteArray.empty, [])).snd.snd.fst.extract 0 (x1.getD x2.toNat 0).toNat).size +       ((x4.getD (0 + (x5.getD (0 + x2.toNat) (0, 0, ByteArray.empty, [])).snd.fst.toNat) ByteArray.empty).extract           (x1.getD x2.toNat 0).toNat           (x4.getD (0 + (x5.getD (0 + x2.toNat) (0, 0, ByteArray.empty, [])).snd.fst.toNat)               ByteArray.empty).size).size ≤     9223372036854775807))
                (cond (decide (0 ≤ (x5.getD (0 + x2.toNat) (0, 0, ByteArray.empty, [])).snd.fst))
                 (cond (decide ((x5.getD (0 + x2.toNat) (0, 0, ByteArray.empty, [])).snd.fst < (↑x4.length : Int)))
                  (kn (x1, (IntKind.i64.wrap (x2 + 1), ())) ((x3, ()), (x4.set (0 + (x5.getD (0 + x2.toNat) (0, 0, ByteArray.empty, [])).snd.fst.toNat)   ((x5.getD (0 + x2.toNat) (0, 0, ByteArray.empty, [])).snd.snd.fst.extract 0 (x1.getD x2.toNat 0).toNat ++     (x4.getD (0 + (x5.getD (0 + x2.toNat) (0, 0, ByteArray.empty, [])).snd.fst.toNat) ByteArray.empty).extract       (x1.getD x2.toNat 0).toNat       (x4.getD (0 + (x5.getD (0 + x2.toNat) (0, 0, ByteArray.empty, [])).snd.fst.toNat) ByteArray.empty).size), (x5, ()))))
                  (none))
                 (none))
                (none))
               (none))
              (none))
             (none))
            (none))
           (none))
          (none))
         (none))
        (none))))
     (none))
    (none))
   (cond (decide (0 > x3))
    (cond (decide (0 ≤ x2))
     (cond (decide (x2 < (↑x5.length : Int)))
      (cond (decide (0 ≤ x3))
       (cond (decide (x3 ≤ (↑(x5.getD (0 + x2.toNat) (0, 0, ByteArray.empty, [])).snd.snd.fst.size : Int)))
        (cond (decide (0 ≤ (x5.getD (0 + x2.toNat) (0, 0, ByteArray.empty, [])).snd.fst))
         (cond (decide ((x5.getD (0 + x2.toNat) (0, 0, ByteArray.empty, [])).snd.fst < (↑x4.length : Int)))
          (cond (decide (0 ≤ x3))
           (cond (decide   (x3 ≤     (↑(x4.getD (0 + (x5.getD (0 + x2.toNat) (0, 0, ByteArray.empty, [])).snd.fst.toNat) ByteArray.empty).size : Int)))
            (cond (decide   (((x5.getD (0 + x2.toNat) (0, 0, ByteArray.empty, [])).snd.snd.fst.extract 0 x3.toNat).size +       ((x4.getD (0 + (x5.getD (0 + x2.toNat) (0, 0, ByteArray.empty, [])).snd.fst.toNat) ByteArray.empty).extract           x3.toNat           (x4.getD (0 + (x5.getD (0 + x2.toNat) (0, 0, ByteArray.empty, [])).snd.fst.toNat)               ByteArray.empty).size).size ≤     9223372036854775807))
             (cond (decide (0 ≤ (x5.getD (0 + x2.toNat) (0, 0, ByteArray.empty, [])).snd.fst))
              (cond (decide ((x5.getD (0 + x2.toNat) (0, 0, ByteArray.empty, [])).snd.fst < (↑x4.length : Int)))
               (kn (x1, (IntKind.i64.wrap (x2 + 1), ())) ((x3, ()), (x4.set (0 + (x5.getD (0 + x2.toNat) (0, 0, ByteArray.empty, [])).snd.fst.toNat)   ((x5.getD (0 + x2.toNat) (0, 0, ByteArray.empty, [])).snd.snd.fst.extract 0 x3.toNat ++     (x4.getD (0 + (x5.getD (0 + x2.toNat) (0, 0, ByteArray.empty, [])).snd.fst.toNat) ByteArray.empty).extract x3.toNat       (x4.getD (0 + (x5.getD (0 + x2.toNat) (0, 0, ByteArray.empty, [])).snd.fst.toNat) ByteArray.empty).size), (x5, ()))))
               (none))
              (none))
             (none))
            (none))
           (none))
          (none))
         (none))
        (none))
       (none))
      (none))
     (none))
    (cond (decide (0 ≤ x2))
     (cond (decide (x2 < (↑x5.length : Int)))
      (cond (decide (0 ≤ (x5.getD (0 + x2.toNat) (0, 0, ByteArray.empty, [])).snd.fst))
       (cond (decide ((x5.getD (0 + x2.toNat) (0, 0, ByteArray.empty, [])).snd.fst < (↑x4.length : Int)))
        (cond (decide   (((x5.getD (0 + x2.toNat) (0, 0, ByteArray.empty, [])).snd.snd.fst.extract 0 0).size +       ((x4.getD (0 + (x5.getD (0 + x2.toNat) (0, 0, ByteArray.empty, [])).snd.fst.toNat) ByteArray.empty).extract 0           (x4.getD (0 + (x5.getD (0 + x2.toNat) (0, 0, ByteArray.empty, [])).snd.fst.toNat)               ByteArray.empty).size).size ≤     9223372036854775807))
         (cond (decide (0 ≤ (x5.getD (0 + x2.toNat) (0, 0, ByteArray.empty, [])).snd.fst))
          (cond (decide ((x5.getD (0 + x2.toNat) (0, 0, ByteArray.empty, [])).snd.fst < (↑x4.length : Int)))
           (kn (x1, (IntKind.i64.wrap (x2 + 1), ())) ((x3, ()), (x4.set (0 + (x5.getD (0 + x2.toNat) (0, 0, ByteArray.empty, [])).snd.fst.toNat)   ((x5.getD (0 + x2.toNat) (0, 0, ByteArray.empty, [])).snd.snd.fst.extract 0 0 ++     (x4.getD (0 + (x5.getD (0 + x2.toNat) (0, 0, ByteArray.empty, [])).snd.fst.toNat) ByteArray.empty).extract 0       (x4.getD (0 + (x5.getD (0 + x2.toNat) (0, 0, ByteArray.empty, [])).snd.fst.toNat) ByteArray.empty).size), (x5, ()))))
           (none))
          (none))
         (none))
        (none))
       (none))
      (none))
     (none))))
  (kr ((), ((x3, ()), (x4, (x5, ())))))
noncomputable def L_ref08_Disk_Crash_1 : LT_ref08_Disk_Crash_1 → LM_ref08_Disk_Crash_1 → Option LO_ref08_Disk_Crash_1 := fun x y => runL (fun p => (fun (a : LT_ref08_Disk_Crash_1) (b : LM_ref08_Disk_Crash_1) => ltree_ref08_Disk_Crash_1 a.1 a.2.1 b.1.1 b.2.1 b.2.2.1 (fun a' b' => some (.inl (a', b'))) fun r => some (.inr r)) p.1 p.2) (x, y)
theorem nl_ref08_Disk_Crash_1 (x1 : List Int) (x2 : Int) (x3 : Int) (x4 : List ByteArray) (x5 : List (Int × Int × ByteArray × List Int)) {α : Type} (kn : LT_ref08_Disk_Crash_1 → LM_ref08_Disk_Crash_1 → Option α) (kr : LO_ref08_Disk_Crash_1 → Option α) : ltree_ref08_Disk_Crash_1 x1 x2 x3 x4 x5 kn kr = (ltree_ref08_Disk_Crash_1 x1 x2 x3 x4 x5 (fun a b => some (.inl (a, b))) fun r => some (.inr r)).bind (Sum.elim (fun p : LT_ref08_Disk_Crash_1 × LM_ref08_Disk_Crash_1 => kn p.1 p.2) kr) := by simp only [ltree_ref08_Disk_Crash_1, bind_cond, bind_none', bind_some', bind_bind', bind_sum, Sum.elim_inl, Sum.elim_inr]
theorem Le_ref08_Disk_Crash_1 (x1 : List Int) (x2 : Int) (x3 : Int) (x4 : List ByteArray) (x5 : List (Int × Int × ByteArray × List Int)) : L_ref08_Disk_Crash_1 (x1, (x2, ())) ((x3, ()), (x4, (x5, ()))) = ltree_ref08_Disk_Crash_1 x1 x2 x3 x4 x5 L_ref08_Disk_Crash_1 some := runL_tree (A := LT_ref08_Disk_Crash_1) (B := LM_ref08_Disk_Crash_1) (R := LO_ref08_Disk_Crash_1) (fun a b kn kr => ltree_ref08_Disk_Crash_1 a.1 a.2.1 b.1.1 b.2.1 b.2.2.1 kn kr) (fun a b kn kr => nl_ref08_Disk_Crash_1 a.1 a.2.1 b.1.1 b.2.1 b.2.2.1 kn kr) (x1, (x2, ())) ((x3, ()), (x4, (x5, ())))
def tree_ref08_Disk_Crash (L_ref08_Disk_Crash_1 : LT_ref08_Disk_Crash_1 → LM_ref08_Disk_Crash_1 → Option LO_ref08_Disk_Crash_1) {α : Type} (x1 : List Int) (x2 : Int) (x3 : List ByteArray) (x4 : List (Int × Int × ByteArray × List Int)) (K : O_ref08_Disk_Crash → Option α) : Option α :=
  (L_ref08_Disk_Crash_1 (x1, 0, ()) ((x2, ()), x3, x4, ())).bind fun r1 =>
  K ((), ((r1.snd.fst.fst, ()), (r1.snd.snd.fst, ((), ([], ())))))
noncomputable def F_ref08_Disk_Crash : A_ref08_Disk_Crash → M_ref08_Disk_Crash → Option O_ref08_Disk_Crash := fun a b => tree_ref08_Disk_Crash L_ref08_Disk_Crash_1 a.1 b.1.1 b.2.1 b.2.2.1 some
theorem n_ref08_Disk_Crash (L_ref08_Disk_Crash_1 : LT_ref08_Disk_Crash_1 → LM_ref08_Disk_Crash_1 → Option LO_ref08_Disk_Crash_1) (x1 : List Int) (x2 : Int) (x3 : List ByteArray) (x4 : List (Int × Int × ByteArray × List Int)) {α : Type} (K : O_ref08_Disk_Crash → Option α) : tree_ref08_Disk_Crash L_ref08_Disk_Crash_1 x1 x2 x3 x4 K = (tree_ref08_Disk_Crash L_ref08_Disk_Crash_1 x1 x2 x3 x4 some).bind K := by simp only [tree_ref08_Disk_Crash, bind_cond, bind_none', bind_some', bind_bind', bind_sum]
theorem Fe_ref08_Disk_Crash (x1 : List Int) (x2 : Int) (x3 : List ByteArray) (x4 : List (Int × Int × ByteArray × List Int)) : F_ref08_Disk_Crash (x1, ()) ((x2, ()), (x3, (x4, ()))) = tree_ref08_Disk_Crash L_ref08_Disk_Crash_1 x1 x2 x3 x4 some := rfl

/-! (*countersign/countersignref08.Disk).Flush -/
def args_ref08_Disk_Flush : SkL := (.cons (.const (.ptr 0 0 0)) .nil)
def mem_ref08_Disk_Flush : MSk := [(0, .cells (.cons (.leaf (.int .i64)) (.cons (.const (.slw 1)) (.cons (.const (.slw 2)) .nil)))), (1, .row 9 (.cons .str .nil)), (2, .row 36 (.cons (.int .i64) (.cons (.int .i64) (.cons .str (.cons (.slc 3 (.cons (.int .i64) .nil)) .nil)))))]
def outs_ref08_Disk_Flush : List OutC := [⟨(.tup .nil), [(0, .cells (.cons (.leaf (.int .i64)) (.cons (.const (.slw 1)) (.cons (.const (.slw 3)) .nil)))), (1, .row 9 (.cons .str .nil)), (2, .gone), (3, .row 36 (.cons (.int .i64) (.cons (.int .i64) (.cons .str (.cons (.slc 3 (.cons (.int .i64) .nil)) .nil)))))]⟩]
abbrev A_ref08_Disk_Flush : Type := Unit
abbrev M_ref08_Disk_Flush : Type := ((Int × Unit) × List ByteArray × (List (Int × Int × ByteArray × List Int)) × Unit)
abbrev O_ref08_Disk_Flush : Type := Unit × ((Int × Unit) × List ByteArray × Unit × (List (Int × Int × ByteArray × List Int)) × Unit)
def ltmps_ref08_Disk_Flush_2 : SkL := (.cons (.const (.ptr 0 0 0)) (.cons (.const .dead) (.cons (.const (.slw 502)) (.cons (.leaf (.int .i64)) (.cons (.const .dead) (.cons (.const .dead) (.cons (.const .dead) (.cons (.const .dead) (.cons (.const .dead) (.cons (.const .dead) (.cons (.const .dead) (.cons (.const .dead) (.cons (.const .dead) (.cons (.const .dead) (.cons (.const .dead) (.cons (.const .dead) (.cons (.const .dead) (.cons (.const .dead) (.cons (.const .dead) (.cons (.const .dead) (.cons (.const .dead) (.cons (.const .dead) (.cons (.const .dead) (.cons (.const .dead) .nil))))))))))))))))))))))))
def lmem_ref08_Disk_Flush_2 : MSk := [(0, .cells (.cons (.leaf (.int .i64)) (.cons (.const (.slw 1)) (.cons (.const (.slw 2)) .nil)))), (1, .row 9 (.cons .str .nil)), (2, .row 36 (.cons (.int .i64) (.cons (.int .i64) (.cons .str (.cons (.slc 3 (.cons (.int .i64) .nil)) .nil))))), (502, .row 3 (.cons (.int .i64) .nil))]
def louts_ref08_Disk_Flush_2 : List OutL := [⟨(.exit 0), (.cons (.const (.ptr 0 0 0)) (.cons (.const .dead) (.cons (.const (.slw 502)) (.cons (.const .dead) (.cons (.const .dead) (.cons (.const .dead) (.cons (.const .dead) (.cons (.const .dead) (.cons (.const .dead) (.cons (.const .dead) (.cons (.const .dead) (.cons (.const .dead) (.cons (.const .dead) (.cons (.const .dead) (.cons (.const .dead) (.cons (.const .dead) (.cons (.const .dead) (.cons (.const .dead) (.cons (.const .dead) (.cons (.const .dead) (.cons (.const .dead) (.cons (.const .dead) (.cons (.const .dead) (.cons (.const .dead) .nil)))))))))))))))))))))))), [(0, .cells (.cons (.leaf (.int .i64)) (.cons (.const (.slw 1)) (.cons (.const (.slw 2)) .nil)))), (1, .row 9 (.cons .str .nil)), (2, .row 36 (.cons (.int .i64) (.cons (.int .i64) (.cons .str (.cons (.slc 3 (.cons (.int .i64) .nil)) .nil))))), (502, .row 3 (.cons (.int .i64) .nil))]⟩]
abbrev LT_ref08_Disk_Flush_2 : Type := (Int × Unit)
abbrev LM_ref08_Disk_Flush_2 : Type := ((Int × Unit) × List ByteArray × (List (Int × Int × ByteArray × List Int)) × List Int × Unit)
abbrev LO_ref08_Disk_Flush_2 : Type := Unit × ((Int × Unit) × List ByteArray × (List (Int × Int × ByteArray × List Int)) × List Int × Unit)
def ltree_ref08_Disk_Flush_2 {α : Type} (x1 : Int) (x2 : Int) (x3 : List ByteArray) (x4 : List (Int × Int × ByteArray × List Int)) (x5 : List Int) (kn : LT_ref08_Disk_Flush_2 → LM_ref08_Disk_Flush_2 → Option α) (kr : LO_ref08_Disk_Flush_2 → Option α) : Option α :=
  cond (decide (x1 < (↑x4.length : Int)))
  (cond (decide ((x5.length + 1) * 8 ≤ 140737488355328))
   (kn (IntKind.i64.wrap (x1 + 1), ()) ((x2, ()), (x3, (x4, (x5 ++ ([] ++ [x2]), ())))))
   (none))
  (kr ((), ((x2, ()), (x3, (x4, (x5, ()))))))
noncomputable def L_ref08_Disk_Flush_2 : LT_ref08_Disk_Flush_2 → LM_ref08_Disk_Flush_2 → Option LO_ref08_Disk_Flush_2 := fun x y => runL (fun p => (fun (a : LT_ref08_Disk_Flush_2) (b : LM_ref08_Disk_Flush_2) => ltree_ref08_Disk_Flush_2 a.1 b.1.1 b.2.1 b.2.2.1 b.2.2.2.1 (fun a' b' => some (.inl (a', b'))) fun r => some (.inr r)) p.1 p.2) (x, y)
theorem nl_ref08_Disk_Flush_2 (x1 : Int) (x2 : Int) (x3 : List ByteArray) (x4 : List (Int × Int × ByteArray × List Int)) (x5 : List Int) {α : Type} (kn : LT_ref08_Disk_Flush_2 → LM_ref08_Disk_Flush_2 → Option α) (kr : LO_ref08_Disk_Flush_2 → Option α) : ltree_ref08_Disk_Flush_2 x1 x2 x3 x4 x5 kn kr = (ltree_ref08_Disk_Flush_2 x1 x2 x3 x4 x5 (fun a b => some (.inl (a, b))) fun r => some (.inr r)).bind (Sum.elim (fun p : LT_ref08_Disk_Flush_2 × LM_ref08_Disk_Flush_2 => kn p.1 p.2) kr) := by simp only [ltree_ref08_Disk_Flush_2, bind_cond, bind_none', bind_some', bind_bind', bind_sum, Sum.elim_inl, Sum.elim_inr]
theorem Le_ref08_Disk_Flush_2 (x1 : Int) (x2 : Int) (x3 : List ByteArray) (x4 : List (Int × Int × ByteArray × List Int)) (x5 : List Int) : L_ref08_Disk_Flush_2 (x1, ()) ((x2, ()), (x3, (x4, (x5, ())))) = ltree_ref08_Disk_Flush_2 x1 x2 x3 x4 x5 L_ref08_Disk_Flush_2 some := runL_tree (A := LT_ref08_Disk_Flush_2) (B := LM_ref08_Disk_Flush_2) (R := LO_ref08_Disk_Flush_2) (fun a b kn kr => ltree_ref08_Disk_Flush_2 a.1 b.1.1 b.2.1 b.2.2.1 b.2.2.2.1 kn kr) (fun a b kn kr => nl_ref08_Disk_Flush_2 a.1 b.1.1 b.2.1 b.2.2.1 b.2.2.2.1 kn kr) (x1, ()) ((x2, ()), (x3, (x4, (x5, ()))))
def tree_ref08_Disk_Flush (F_ref08_Disk_Crash : A_ref08_Disk_Crash → M_ref08_Disk_Crash → Option O_ref08_Disk_Crash) (L_ref08_Disk_Flush_2 : LT_ref08_Disk_Flush_2 → LM_ref08_Disk_Flush_2 → Option LO_ref08_Disk_Flush_2) {α : Type} (x1 : Int) (x2 : List ByteArray) (x3 : List (Int × Int × ByteArray × List Int)) (K : O_ref08_Disk_Flush → Option α) : Option α :=
  (L_ref08_Disk_Flush_2 (0, ()) ((x1, ()), x2, x3, [], ())).bind fun r1 =>
  (F_ref08_Disk_Crash (r1.snd.snd.snd.snd.fst, ())   ((r1.snd.fst.fst, ()), r1.snd.snd.fst, r1.snd.snd.snd.fst, ())).bind fun r2 =>
  K ((), ((r2.snd.fst.fst, ()), (r2.snd.snd.fst, ((), (r2.snd.snd.snd.snd.fst, ())))))
noncomputable def F_ref08_Disk_Flush : A_ref08_Disk_Flush → M_ref08_Disk_Flush → Option O_ref08_Disk_Flush := fun a b => tree_ref08_Disk_Flush F_ref08_Disk_Crash L_ref08_Disk_Flush_2 b.1.1 b.2.1 b.2.2.1 some
theorem n_ref08_Disk_Flush (F_ref08_Disk_Crash : A_ref08_Disk_Crash → M_ref08_Disk_Crash → Option O_ref08_Disk_Crash) (L_ref08_Disk_Flush_2 : LT_ref08_Disk_Flush_2 → LM_ref08_Disk_Flush_2 → Option LO_ref08_Disk_Flush_2) (x1 : Int) (x2 : List ByteArray) (x3 : List (Int × Int × ByteArray × List Int)) {α : Type} (K : O_ref08_Disk_Flush → Option α) : tree_ref08_Disk_Flush F_ref08_Disk_Crash L_ref08_Disk_Flush_2 x1 x2 x3 K = (tree_ref08_Disk_Flush F_ref08_Disk_Crash L_ref08_Disk_Flush_2 x1 x2 x3 some).bind K := by simp only [tree_ref08_Disk_Flush, bind_cond, bind_none', bind_some', bind_bind', bind_sum]
theorem Fe_ref08_Disk_Flush (x1 : Int) (x2 : List ByteArray) (x3 : List (Int × Int × ByteArray × List Int)) : F_ref08_Disk_Flush () ((x1, ()), (x2, (x3, ()))) = tree_ref08_Disk_Flush F_ref08_Disk_Crash L_ref08_Disk_Flush_2 x1 x2 x3 some := rfl

/-! (*countersign/disk.Disk).Do -/
def args_disk_Disk_Do : SkL := (.cons (.const (.ptr 0 0 0)) (.cons (.agg (.cons (.leaf (.int .i64)) (.cons (.leaf (.int .i64)) (.cons (.leaf .str) (.cons (.leaf (.slc 3 (.cons (.int .i64) .nil))) .nil))))) .nil))
def mem_disk_Disk_Do : MSk := [(0, .cells (.cons (.leaf (.int .i64)) (.cons (.const (.slw 1)) (.cons (.const (.slw 2)) .nil)))), (1, .row 9 (.cons .str .nil)), (2, .row 78 (.cons (.int .i64) (.cons .str .nil)))]
def outs_disk_Disk_Do : List OutC := [⟨(.tup (.cons (.leaf .str) (.cons (.leaf .bool) .nil))), [(0, .cells (.cons (.leaf (.int .i64)) (.cons (.const (.slw 1)) (.cons (.const (.slw 3)) .nil)))), (1, .row 9 (.cons .str .nil)), (2, .gone), (3, .row 78 (.cons (.int .i64) (.cons .str .nil)))]⟩]
abbrev A_disk_Disk_Do : Type := ((Int × Int × ByteArray × List Int × Unit) × Unit)
abbrev M_disk_Disk_Do : Type := ((Int × Unit) × List ByteArray × (List (Int × ByteArray)) × Unit)
abbrev O_disk_Disk_Do : Type := (ByteArray × Bool × Unit) × ((Int × Unit) × List ByteArray × Unit × (List (Int × ByteArray)) × Unit)
def tree_disk_Disk_Do (F_disk_Disk_Read : A_disk_Disk_Read → M_disk_Disk_Read → Option O_disk_Disk_Read) (F_disk_Disk_Write : A_disk_Disk_Write → M_disk_Disk_Write → Option O_disk_Disk_Write) (F_disk_Disk_Flush : A_disk_Disk_Flush → M_disk_Disk_Flush → Option O_disk_Disk_Flush) (F_disk_Disk_Crash : A_disk_Disk_Crash → M_disk_Disk_Crash → Option O_disk_Disk_Crash) {α : Type} (x1 : Int) (x2 : Int) (x3 : ByteArray) (x4 : List Int) (x5 : Int) (x6 : List ByteArray) (x7 : List (Int × ByteArray)) (K : O_disk_Disk_Do → Option α) : Option α :=
  cond (x1 == 0)
  ((F_disk_Disk_Read (x2, ()) ((x5, ()), x6, x7, ())).bind fun r1 =>
   K ((r1.fst.fst, (r1.fst.snd.fst, ())), ((x5, ()), (x6, ((), (x7, ()))))))
  (cond (x1 == 1)
   ((F_disk_Disk_Write (x2, x3, ()) ((x5, ()), x6, x7, ())).bind fun r2 =>
    K ((ByteArray.empty, (r2.fst, ())), ((r2.snd.fst.fst, ()), (r2.snd.snd.fst, ((), (r2.snd.snd.snd.snd.fst, ()))))))
   (cond (x1 == 2)
    ((F_disk_Disk_Flush () ((x5, ()), x6, x7, ())).bind fun r3 =>
     K ((ByteArray.empty, (true, ())), ((r3.snd.fst.fst, ()), (r3.snd.snd.fst, ((), (r3.snd.snd.snd.snd.fst, ()))))))
    (cond (x1 == 3)
     ((F_disk_Disk_Crash (x4, ()) ((x5, ()), x6, x7, ())).bind fun r4 =>
      K ((ByteArray.empty, (true, ())), ((r4.snd.fst.fst, ()), (r4.snd.snd.fst, ((), (r4.snd.snd.snd.snd.fst, ()))))))
     (K ((ByteArray.empty, (false, ())), ((x5, ()), (x6, ((), (x7, ())))))))))
noncomputable def F_disk_Disk_Do : A_disk_Disk_Do → M_disk_Disk_Do → Option O_disk_Disk_Do := fun a b => tree_disk_Disk_Do F_disk_Disk_Read F_disk_Disk_Write F_disk_Disk_Flush F_disk_Disk_Crash a.1.1 a.1.2.1 a.1.2.2.1 a.1.2.2.2.1 b.1.1 b.2.1 b.2.2.1 some
theorem n_disk_Disk_Do (F_disk_Disk_Read : A_disk_Disk_Read → M_disk_Disk_Read → Option O_disk_Disk_Read) (F_disk_Disk_Write : A_disk_Disk_Write → M_disk_Disk_Write → Option O_disk_Disk_Write) (F_disk_Disk_Flush : A_disk_Disk_Flush → M_disk_Disk_Flush → Option O_disk_Disk_Flush) (F_disk_Disk_Crash : A_disk_Disk_Crash → M_disk_Disk_Crash → Option O_disk_Disk_Crash) (x1 : Int) (x2 : Int) (x3 : ByteArray) (x4 : List Int) (x5 : Int) (x6 : List ByteArray) (x7 : List (Int × ByteArray)) {α : Type} (K : O_disk_Disk_Do → Option α) : tree_disk_Disk_Do F_disk_Disk_Read F_disk_Disk_Write F_disk_Disk_Flush F_disk_Disk_Crash x1 x2 x3 x4 x5 x6 x7 K = (tree_disk_Disk_Do F_disk_Disk_Read F_disk_Disk_Write F_disk_Disk_Flush F_disk_Disk_Crash x1 x2 x3 x4 x5 x6 x7 some).bind K := by simp only [tree_disk_Disk_Do, bind_cond, bind_none', bind_some', bind_bind', bind_sum]
theorem Fe_disk_Disk_Do (x1 : Int) (x2 : Int) (x3 : ByteArray) (x4 : List Int) (x5 : Int) (x6 : List ByteArray) (x7 : List (Int × ByteArray)) : F_disk_Disk_Do ((x1, (x2, (x3, (x4, ())))), ()) ((x5, ()), (x6, (x7, ()))) = tree_disk_Disk_Do F_disk_Disk_Read F_disk_Disk_Write F_disk_Disk_Flush F_disk_Disk_Crash x1 x2 x3 x4 x5 x6 x7 some := rfl

/-! (*countersign/countersignref08.Disk).Do -/
def args_ref08_Disk_Do : SkL := (.cons (.const (.ptr 0 0 0)) (.cons (.agg (.cons (.leaf (.int .i64)) (.cons (.leaf (.int .i64)) (.cons (.leaf .str) (.cons (.leaf (.slc 3 (.cons (.int .i64) .nil))) .nil))))) .nil))
def mem_ref08_Disk_Do : MSk := [(0, .cells (.cons (.leaf (.int .i64)) (.cons (.const (.slw 1)) (.cons (.const (.slw 2)) .nil)))), (1, .row 9 (.cons .str .nil)), (2, .row 36 (.cons (.int .i64) (.cons (.int .i64) (.cons .str (.cons (.slc 3 (.cons (.int .i64) .nil)) .nil)))))]
def outs_ref08_Disk_Do : List OutC := [⟨(.tup (.cons (.leaf .str) (.cons (.leaf .bool) .nil))), [(0, .cells (.cons (.leaf (.int .i64)) (.cons (.const (.slw 1)) (.cons (.const (.slw 3)) .nil)))), (1, .row 9 (.cons .str .nil)), (2, .gone), (3, .row 36 (.cons (.int .i64) (.cons (.int .i64) (.cons .str (.cons (.slc 3 (.cons (.int .i64) .nil)) .nil)))))]⟩]
abbrev A_ref08_Disk_Do : Type := ((Int × Int × ByteArray × List Int × Unit) × Unit)
abbrev M_ref08_Disk_Do : Type := ((Int × Unit) × List ByteArray × (List (Int × Int × ByteArray × List Int)) × Unit)
abbrev O_ref08_Disk_Do : Type := (ByteArray × Bool × Unit) × ((Int × Unit) × List ByteArray × Unit × (List (Int × Int × ByteArray × List Int)) × Unit)
def tree_ref08_Disk_Do (F_ref08_Disk_Read : A_ref08_Disk_Read → M_ref08_Disk_Read → Option O_ref08_Disk_Read) (F_ref08_Disk_Write : A_ref08_Disk_Write → M_ref08_Disk_Write → Option O_ref08_Disk_Write) (F_ref08_Disk_Flush : A_ref08_Disk_Flush → M_ref08_Disk_Flush → Option O_ref08_Disk_Flush) (F_ref08_Disk_Crash : A_ref08_Disk_Crash → M_ref08_Disk_Crash → Option O_ref08_Disk_Crash) {α : Type} (x1 : Int) (x2 : Int) (x3 : ByteArray) (x4 : List Int) (x5 : Int) (x6 : List ByteArray) (x7 : List (Int × Int × ByteArray × List Int)) (K : O_ref08_Disk_Do → Option α) : Option α :=
  cond (x1 == 0)
  ((F_ref08_Disk_Read (x2, ()) ((x5, ()), x6, x7, ())).bind fun r1 =>
   K ((r1.fst.fst, (r1.fst.snd.fst, ())), ((x5, ()), (x6, ((), (x7, ()))))))
  (cond (x1 == 1)
   ((F_ref08_Disk_Write (x2, x3, ()) ((x5, ()), x6, x7, ())).bind fun r2 =>
    K ((ByteArray.empty, (r2.fst, ())), ((r2.snd.fst.fst, ()), (r2.snd.snd.fst, ((), (r2.snd.snd.snd.snd.fst, ()))))))
   (cond (x1 == 2)
    ((F_ref08_Disk_Flush () ((x5, ()), x6, x7, ())).bind fun r3 =>
     K ((ByteArray.empty, (true, ())), ((r3.snd.fst.fst, ()), (r3.snd.snd.fst, ((), (r3.snd.snd.snd.snd.fst, ()))))))
    (cond (x1 == 3)
     ((F_ref08_Disk_Crash (x4, ()) ((x5, ()), x6, x7, ())).bind fun r4 =>
      K ((ByteArray.empty, (true, ())), ((r4.snd.fst.fst, ()), (r4.snd.snd.fst, ((), (r4.snd.snd.snd.snd.fst, ()))))))
     (K ((ByteArray.empty, (false, ())), ((x5, ()), (x6, ((), (x7, ())))))))))
noncomputable def F_ref08_Disk_Do : A_ref08_Disk_Do → M_ref08_Disk_Do → Option O_ref08_Disk_Do := fun a b => tree_ref08_Disk_Do F_ref08_Disk_Read F_ref08_Disk_Write F_ref08_Disk_Flush F_ref08_Disk_Crash a.1.1 a.1.2.1 a.1.2.2.1 a.1.2.2.2.1 b.1.1 b.2.1 b.2.2.1 some
theorem n_ref08_Disk_Do (F_ref08_Disk_Read : A_ref08_Disk_Read → M_ref08_Disk_Read → Option O_ref08_Disk_Read) (F_ref08_Disk_Write : A_ref08_Disk_Write → M_ref08_Disk_Write → Option O_ref08_Disk_Write) (F_ref08_Disk_Flush : A_ref08_Disk_Flush → M_ref08_Disk_Flush → Option O_ref08_Disk_Flush) (F_ref08_Disk_Crash : A_ref08_Disk_Crash → M_ref08_Disk_Crash → Option O_ref08_Disk_Crash) (x1 : Int) (x2 : Int) (x3 : ByteArray) (x4 : List Int) (x5 : Int) (x6 : List ByteArray) (x7 : List (Int × Int × ByteArray × List Int)) {α : Type} (K : O_ref08_Disk_Do → Option α) : tree_ref08_Disk_Do F_ref08_Disk_Read F_ref08_Disk_Write F_ref08_Disk_Flush F_ref08_Disk_Crash x1 x2 x3 x4 x5 x6 x7 K = (tree_ref08_Disk_Do F_ref08_Disk_Read F_ref08_Disk_Write F_ref08_Disk_Flush F_ref08_Disk_Crash x1 x2 x3 x4 x5 x6 x7 some).bind K := by simp only [tree_ref08_Disk_Do, bind_cond, bind_none', bind_some', bind_bind', bind_sum]
theorem Fe_ref08_Disk_Do (x1 : Int) (x2 : Int) (x3 : ByteArray) (x4 : List Int) (x5 : Int) (x6 : List ByteArray) (x7 : List (Int × Int × ByteArray × List Int)) : F_ref08_Disk_Do ((x1, (x2, (x3, (x4, ())))), ()) ((x5, ()), (x6, (x7, ()))) = tree_ref08_Disk_Do F_ref08_Disk_Read F_ref08_Disk_Write F_ref08_Disk_Flush F_ref08_Disk_Crash x1 x2 x3 x4 x5 x6 x7 some := rfl

/-! countersign/countersignlaw08.made -/
def args_law08_made : SkL := (.cons (.agg (.cons (.leaf (.int .i64)) (.cons (.leaf (.int .i64)) (.cons (.leaf (.slc 36 (.cons (.int .i64) (.cons (.int .i64) (.cons .str (.cons (.slc 3 (.cons (.int .i64) .nil)) .nil)))))) .nil)))) .nil)
def mem_law08_made : MSk := []
def outs_law08_made : List OutC := [⟨(.tup (.cons (.const .nilp) (.cons (.const (.bool Bool.false)) .nil))), []⟩, ⟨(.tup (.cons (.const (.ptr 0 0 0)) (.cons (.const (.bool Bool.true)) .nil))), [(0, .cells (.cons (.leaf (.int .i64)) (.cons (.const (.slw 1)) (.cons (.const (.slw 2)) .nil)))), (1, .row 9 (.cons .str .nil)), (2, .row 78 (.cons (.int .i64) (.cons .str .nil)))]⟩]
abbrev A_law08_made : Type := ((Int × Int × (List (Int × Int × ByteArray × List Int)) × Unit) × Unit)
abbrev M_law08_made : Type := Unit
abbrev O_law08_made : Type := (Unit × Unit) ⊕ (Unit × ((Int × Unit) × List ByteArray × (List (Int × ByteArray)) × Unit))
def ltmps_law08_made_5 : SkL := (.cons (.const .dead) (.cons (.const (.ptr 1032 0 0)) (.cons (.const .dead) (.cons (.const .dead) (.cons (.const (.ptr 1385 0 0)) (.cons (.const .dead) (.cons (.leaf (.int .i64)) (.cons (.const .dead) (.cons (.const .dead) (.cons (.const .dead) (.cons (.const .dead) (.cons (.const .dead) (.cons (.const .dead) (.cons (.const .dead) (.cons (.const .dead) (.cons (.const .dead) (.cons (.const .dead) (.cons (.const .dead) (.cons (.const .dead) (.cons (.const .dead) (.cons (.const .dead) (.cons (.const .dead) (.cons (.const .dead) (.cons (.const .dead) (.cons (.const .dead) (.cons (.const .dead) (.cons (.const .dead) (.cons (.const .dead) (.cons (.const .dead) (.cons (.const .dead) (.cons (.const .dead) (.cons (.const .dead) (.cons (.const .dead) (.cons (.const .dead) (.cons (.const .dead) (.cons (.const .dead) (.cons (.const .dead) (.cons (.const .dead) (.cons (.const .dead) (.cons (.const .dead) .nil))))))))))))))))))))))))))))))))))))))))
def lmem_law08_made_5 : MSk := [(600, .row 78 (.cons (.int .i64) (.cons .str .nil))), (1032, .cells (.cons (.leaf (.int .i64)) (.cons (.leaf (.int .i64)) (.cons (.leaf (.slc 36 (.cons (.int .i64) (.cons (.int .i64) (.cons .str (.cons (.slc 3 (.cons (.int .i64) .nil)) .nil)))))) .nil)))), (1385, .cells (.cons (.leaf (.int .i64)) (.cons (.const (.slw 1386)) (.cons (.const (.slw 600)) .nil)))), (1386, .row 9 (.cons .str .nil))]
def louts_law08_made_5 : List OutL := [⟨(.exit 0), (.cons (.const .dead) (.cons (.const .dead) (.cons (.const .dead) (.cons (.const .dead) (.cons (.const (.ptr 1385 0 0)) (.cons (.const .dead) (.cons (.const .dead) (.cons (.const .dead) (.cons (.const .dead) (.cons (.const .dead) (.cons (.const .dead) (.cons (.const .dead) (.cons (.const .dead) (.cons (.const .dead) (.cons (.const .dead) (.cons (.const .dead) (.cons (.const .dead) (.cons (.const .dead) (.cons (.const .dead) (.cons (.const .dead) (.cons (.const .dead) (.cons (.const .dead) (.cons (.const .dead) (.cons (.const .dead) (.cons (.const .dead) (.cons (.const .dead) (.cons (.const .dead) (.cons (.const .dead) (.cons (.const .dead) (.cons (.const .dead) (.cons (.const .dead) (.cons (.const .dead) (.cons (.const .dead) (.cons (.const .dead) (.cons (.const .dead) (.cons (.const .dead) (.cons (.const .dead) (.cons (.const .dead) (.cons (.const .dead) (.cons (.const .dead) .nil)))))))))))))))))))))))))))))))))))))))), [(600, .row 78 (.cons (.int .i64) (.cons .str .nil))), (1385, .cells (.cons (.leaf (.int .i64)) (.cons (.const (.slw 1386)) (.cons (.const (.slw 600)) .nil)))), (1386, .row 9 (.cons .str .nil))]⟩]
abbrev LT_law08_made_5 : Type := (Int × Unit)
abbrev LM_law08_made_5 : Type := ((List (Int × ByteArray)) × (Int × Int × (List (Int × Int × ByteArray × List Int)) × Unit) × (Int × Unit) × List ByteArray × Unit)
abbrev LO_law08_made_5 : Type := Unit × ((List (Int × ByteArray)) × (Int × Unit) × List ByteArray × Unit)
def ltree_law08_made_5 (F_disk_Disk_Do : A_disk_Disk_Do → M_disk_Disk_Do → Option O_disk_Disk_Do) {α : Type} (x1 : Int) (x2 : List (Int × ByteArray)) (x3 : Int) (x4 : Int) (x5 : List (Int × Int × ByteArray × List Int)) (x6 : Int) (x7 : List ByteArray) (kn : LT_law08_made_5 → LM_law08_made_5 → Option α) (kr : LO_law08_made_5 → Option α) : Option α :=
  cond (decide (x1 < (↑x5.length : Int)))
  (cond (decide (x1 < 200))
   (cond (decide (0 ≤ x1))
    (cond (decide (x1 < (↑x5.length : Int)))
     ((F_disk_Disk_Do   (((x5.getD x1.toNat (0, 0, ByteArray.empty, [])).fst, (x5.getD x1.toNat (0, 0, ByteArray.empty, [])).snd.fst,       (x5.getD x1.toNat (0, 0, ByteArray.empty, [])).snd.snd.fst,       (x5.getD x1.toNat (0, 0, ByteArray.empty, [])).snd.snd.snd, ()),     ())   ((x6, ()), x7, x2, ())).bind fun r1 =>
      kn (IntKind.i64.wrap (x1 + 1), ()) (r1.snd.snd.snd.snd.fst, ((x3, (x4, (x5, ()))), ((r1.snd.fst.fst, ()), (r1.snd.snd.fst, ())))))
     (none))
    (none))
   (kr ((), (x2, ((x6, ()), (x7, ()))))))
  (kr ((), (x2, ((x6, ()), (x7, ())))))
noncomputable def L_law08_made_5 : LT_law08_made_5 → LM_law08_made_5 → Option LO_law08_made_5 := fun x y => runL (fun p => (fun (a : LT_law08_made_5) (b : LM_law08_made_5) => ltree_law08_made_5 F_disk_Disk_Do a.1 b.1 b.2.1.1 b.2.1.2.1 b.2.1.2.2.1 b.2.2.1.1 b.2.2.2.1 (fun a' b' => some (.inl (a', b'))) fun r => some (.inr r)) p.1 p.2) (x, y)
theorem nl_law08_made_5 (F_disk_Disk_Do : A_disk_Disk_Do → M_disk_Disk_Do → Option O_disk_Disk_Do) (x1 : Int) (x2 : List (Int × ByteArray)) (x3 : Int) (x4 : Int) (x5 : List (Int × Int × ByteArray × List Int)) (x6 : Int) (x7 : List ByteArray) {α : Type} (kn : LT_law08_made_5 → LM_law08_made_5 → Option α) (kr : LO_law08_made_5 → Option α) : ltree_law08_made_5 F_disk_Disk_Do x1 x2 x3 x4 x5 x6 x7 kn kr = (ltree_law08_made_5 F_disk_Disk_Do x1 x2 x3 x4 x5 x6 x7 (fun a b => some (.inl (a, b))) fun r => some (.inr r)).bind (Sum.elim (fun p : LT_law08_made_5 × LM_law08_made_5 => kn p.1 p.2) kr) := by simp only [ltree_law08_made_5, bind_cond, bind_none', bind_some', bind_bind', bind_sum, Sum.elim_inl, Sum.elim_inr]
theorem Le_law08_made_5 (x1 : Int) (x2 : List (Int × ByteArray)) (x3 : Int) (x4 : Int) (x5 : List (Int × Int × ByteArray × List Int)) (x6 : Int) (x7 : List ByteArray) : L_law08_made_5 (x1, ()) (x2, ((x3, (x4, (x5, ()))), ((x6, ()), (x7, ())))) = ltree_law08_made_5 F_disk_Disk_Do x1 x2 x3 x4 x5 x6 x7 L_law08_made_5 some := runL_tree (A := LT_law08_made_5) (B := LM_law08_made_5) (R := LO_law08_made_5) (fun a b kn kr => ltree_law08_made_5 F_disk_Disk_Do a.1 b.1 b.2.1.1 b.2.1.2.1 b.2.1.2.2.1 b.2.2.1.1 b.2.2.2.1 kn kr) (fun a b kn kr => nl_law08_made_5 F_disk_Disk_Do a.1 b.1 b.2.1.1 b.2.1.2.1 b.2.1.2.2.1 b.2.2.1.1 b.2.2.2.1 kn kr) (x1, ()) (x2, ((x3, (x4, (x5, ()))), ((x6, ()), (x7, ()))))
def tree_law08_made (F_disk_New : A_disk_New → M_disk_New → Option O_disk_New) (L_law08_made_5 : LT_law08_made_5 → LM_law08_made_5 → Option LO_law08_made_5) {α : Type} (x1 : Int) (x2 : Int) (x3 : List (Int × Int × ByteArray × List Int)) (K : O_law08_made → Option α) : Option α :=
  (F_disk_New (x1, x2, ()) ()).bind fun r1 =>
  Sum.elim (fun u2 =>
   K (.inl ((), ())))
  (fun u2 =>
   (L_law08_made_5 (0, ())   (u2.snd.snd.snd.fst, (x1, x2, x3, ()), (u2.snd.fst.fst, ()), u2.snd.snd.fst, ())).bind fun r3 =>
   K (.inr ((), ((r3.snd.snd.fst.fst, ()), (r3.snd.snd.snd.fst, (r3.snd.fst, ())))))) (r1)
noncomputable def F_law08_made : A_law08_made → M_law08_made → Option O_law08_made := fun a b => tree_law08_made F_disk_New L_law08_made_5 a.1.1 a.1.2.1 a.1.2.2.1 some
theorem n_law08_made (F_disk_New : A_disk_New → M_disk_New → Option O_disk_New) (L_law08_made_5 : LT_law08_made_5 → LM_law08_made_5 → Option LO_law08_made_5) (x1 : Int) (x2 : Int) (x3 : List (Int × Int × ByteArray × List Int)) {α : Type} (K : O_law08_made → Option α) : tree_law08_made F_disk_New L_law08_made_5 x1 x2 x3 K = (tree_law08_made F_disk_New L_law08_made_5 x1 x2 x3 some).bind K := by simp only [tree_law08_made, bind_cond, bind_none', bind_some', bind_bind', bind_sum]
theorem Fe_law08_made (x1 : Int) (x2 : Int) (x3 : List (Int × Int × ByteArray × List Int)) : F_law08_made ((x1, (x2, (x3, ()))), ()) () = tree_law08_made F_disk_New L_law08_made_5 x1 x2 x3 some := rfl

/-! countersign/countersignlaw08.fixed -/
def args_law08_fixed : SkL := .nil
def mem_law08_fixed : MSk := []
def outs_law08_fixed : List OutC := [⟨(.leaf .bool), []⟩]
abbrev A_law08_fixed : Type := Unit
abbrev M_law08_fixed : Type := Unit
abbrev O_law08_fixed : Type := Bool × Unit
def tree_law08_fixed (F_disk_New : A_disk_New → M_disk_New → Option O_disk_New) (F_disk_Disk_Write : A_disk_Disk_Write → M_disk_Disk_Write → Option O_disk_Disk_Write) (F_disk_Disk_Pending : A_disk_Disk_Pending → M_disk_Disk_Pending → Option O_disk_Disk_Pending) (F_disk_Disk_Crash : A_disk_Disk_Crash → M_disk_Disk_Crash → Option O_disk_Disk_Crash) (F_disk_Disk_Read : A_disk_Disk_Read → M_disk_Disk_Read → Option O_disk_Disk_Read) (F_ref08_Zeros : A_ref08_Zeros → M_ref08_Zeros → Option O_ref08_Zeros) (F_disk_Disk_Sectors : A_disk_Disk_Sectors → M_disk_Disk_Sectors → Option O_disk_Disk_Sectors) (F_disk_Disk_Size : A_disk_Disk_Size → M_disk_Disk_Size → Option O_disk_Disk_Size) {α : Type} (K : O_law08_fixed → Option α) : Option α :=
  (F_disk_New (2, 32, ()) ()).bind fun r1 =>
  Sum.elim (fun u2 =>
   (F_disk_New (2, 31, ()) ()).bind fun r3 =>
   Sum.elim (fun u4 =>
    K (false, ()))
   (fun u4 =>
    K (false, ())) (r3))
  (fun u2 =>
   (F_disk_New (2, 31, ()) ()).bind fun r5 =>
   Sum.elim (fun u6 =>
    (F_disk_Disk_Write (0, (ByteArray.mk #[97, 98]), ())   ((u2.snd.fst.fst, ()), u2.snd.snd.fst, u2.snd.snd.snd.fst, ())).bind fun r7 =>
    (F_disk_Disk_Pending () ((r7.snd.fst.fst, ()), r7.snd.snd.fst, r7.snd.snd.snd.snd.fst, ())).bind fun r8 =>
    (F_disk_Disk_Crash ([] ++ [1], ()) ((r7.snd.fst.fst, ()), r7.snd.snd.fst, r7.snd.snd.snd.snd.fst, ())).bind fun r9 =>
    (F_disk_Disk_Read (0, ()) ((r9.snd.fst.fst, ()), r9.snd.snd.fst, r9.snd.snd.snd.snd.fst, ())).bind fun r10 =>
    cond (r7.fst)
    (cond (r8.fst == 1)
     (cond (r10.fst.snd.fst)
      ((F_ref08_Zeros (31, ()) ()).bind fun r11 =>
       cond (decide (1 + r11.fst.size ≤ 9223372036854775807))
       (cond (r10.fst.fst.toList == ((ByteArray.mk #[97]) ++ r11.fst).toList)
        ((F_disk_Disk_Sectors () ((r9.snd.fst.fst, ()), r9.snd.snd.fst, r9.snd.snd.snd.snd.fst, ())).bind fun r12 =>
         cond (r12.fst == 2)
         ((F_disk_Disk_Size () ((r9.snd.fst.fst, ()), r9.snd.snd.fst, r9.snd.snd.snd.snd.fst, ())).bind fun r13 =>
          cond (r13.fst == 32)
          ((F_disk_Disk_Pending () ((r9.snd.fst.fst, ()), r9.snd.snd.fst, r9.snd.snd.snd.snd.fst, ())).bind fun r14 =>
           K (r14.fst == 0, ()))
          (K (false, ())))
         (K (false, ())))
        (K (false, ())))
       (none))
      (K (false, ())))
     (K (false, ())))
    (K (false, ())))
   (fun u6 =>
    K (false, ())) (r5)) (r1)
noncomputable def F_law08_fixed : A_law08_fixed → M_law08_fixed → Option O_law08_fixed := fun a b => tree_law08_fixed F_disk_New F_disk_Disk_Write F_disk_Disk_Pending F_disk_Disk_Crash F_disk_Disk_Read F_ref08_Zeros F_disk_Disk_Sectors F_disk_Disk_Size some
theorem n_law08_fixed (F_disk_New : A_disk_New → M_disk_New → Option O_disk_New) (F_disk_Disk_Write : A_disk_Disk_Write → M_disk_Disk_Write → Option O_disk_Disk_Write) (F_disk_Disk_Pending : A_disk_Disk_Pending → M_disk_Disk_Pending → Option O_disk_Disk_Pending) (F_disk_Disk_Crash : A_disk_Disk_Crash → M_disk_Disk_Crash → Option O_disk_Disk_Crash) (F_disk_Disk_Read : A_disk_Disk_Read → M_disk_Disk_Read → Option O_disk_Disk_Read) (F_ref08_Zeros : A_ref08_Zeros → M_ref08_Zeros → Option O_ref08_Zeros) (F_disk_Disk_Sectors : A_disk_Disk_Sectors → M_disk_Disk_Sectors → Option O_disk_Disk_Sectors) (F_disk_Disk_Size : A_disk_Disk_Size → M_disk_Disk_Size → Option O_disk_Disk_Size) {α : Type} (K : O_law08_fixed → Option α) : tree_law08_fixed F_disk_New F_disk_Disk_Write F_disk_Disk_Pending F_disk_Disk_Crash F_disk_Disk_Read F_ref08_Zeros F_disk_Disk_Sectors F_disk_Disk_Size K = (tree_law08_fixed F_disk_New F_disk_Disk_Write F_disk_Disk_Pending F_disk_Disk_Crash F_disk_Disk_Read F_ref08_Zeros F_disk_Disk_Sectors F_disk_Disk_Size some).bind K := by simp only [tree_law08_fixed, bind_cond, bind_none', bind_some', bind_bind', bind_sum]
theorem Fe_law08_fixed : F_law08_fixed () () = tree_law08_fixed F_disk_New F_disk_Disk_Write F_disk_Disk_Pending F_disk_Disk_Crash F_disk_Disk_Read F_ref08_Zeros F_disk_Disk_Sectors F_disk_Disk_Size some := rfl

/-! countersign/countersignlaw08.mixed -/
def args_law08_mixed : SkL := (.cons (.leaf .str) (.cons (.leaf .str) (.cons (.leaf (.slc 36 (.cons (.int .i64) (.cons (.int .i64) (.cons .str (.cons (.slc 3 (.cons (.int .i64) .nil)) .nil)))))) (.cons (.leaf (.int .i64)) .nil))))
def mem_law08_mixed : MSk := []
def outs_law08_mixed : List OutC := [⟨(.leaf .bool), []⟩]
abbrev A_law08_mixed : Type := (ByteArray × ByteArray × (List (Int × Int × ByteArray × List Int)) × Int × Unit)
abbrev M_law08_mixed : Type := Unit
abbrev O_law08_mixed : Type := Bool × Unit
def ltmps_law08_mixed_6 : SkL := (.cons (.leaf .str) (.cons (.leaf .str) (.cons (.leaf (.slc 36 (.cons (.int .i64) (.cons (.int .i64) (.cons .str (.cons (.slc 3 (.cons (.int .i64) .nil)) .nil)))))) (.cons (.leaf (.int .i64)) (.cons (.const .dead) (.cons (.const .dead) (.cons (.const .dead) (.cons (.const .dead) (.cons (.const .dead) (.cons (.leaf (.int .i64)) (.cons (.leaf .bool) (.cons (.leaf (.int .i64)) (.cons (.const .dead) (.cons (.const .dead) (.cons (.const .dead) (.cons (.const .dead) (.cons (.const .dead) (.cons (.const .dead) (.cons (.const .dead) (.cons (.const .dead) (.cons (.const .dead) (.cons (.const .dead) (.cons (.const .dead) (.cons (.const .dead) (.cons (.const .dead) (.cons (.const .dead) (.cons (.const .dead) (.cons (.const .dead) (.cons (.const .dead) (.cons (.const .dead) (.cons (.const .dead) (.cons (.const .dead) (.cons (.const .dead) (.cons (.const .dead) (.cons (.const .dead) (.cons (.const .dead) (.cons (.const .dead) (.cons (.const .dead) (.cons (.const .dead) (.cons (.const .dead) (.cons (.const .dead) (.cons (.const .dead) (.cons (.const .dead) (.cons (.const .dead) (.cons (.const .dead) (.cons (.const .dead) (.cons (.const .dead) (.cons (.const .dead) (.cons (.const .dead) (.cons (.const .dead) (.cons (.const .dead) (.cons (.const .dead) (.cons (.const .dead) (.cons (.const .dead) (.cons (.const .dead) (.cons (.const .dead) (.cons (.const .dead) (.cons (.const .dead) (.cons (.const .dead) (.cons (.const .dead) (.cons (.const .dead) (.cons (.const .dead) (.cons (.const .dead) (.cons (.const .dead) (.cons (.const .dead) (.cons (.const .dead) (.cons (.const .dead) (.cons (.const .dead) (.cons (.const .dead) .nil)))))))))))))))))))))))))))))))))))))))))))))))))))))))))))))))))))))
def lmem_law08_mixed_6 : MSk := []
def louts_law08_mixed_6 : List OutL := [⟨(.exit 2), (.cons (.leaf .str) (.cons (.leaf .str) (.cons (.leaf (.slc 36 (.cons (.int .i64) (.cons (.int .i64) (.cons .str (.cons (.slc 3 (.cons (.int .i64) .nil)) .nil)))))) (.cons (.leaf (.int .i64)) (.cons (.const .dead) (.cons (.const .dead) (.cons (.const .dead) (.cons (.const .dead) (.cons (.const .dead) (.cons (.leaf (.int .i64)) (.cons (.leaf .bool) (.cons (.const .dead) (.cons (.const .dead) (.cons (.const .dead) (.cons (.const .dead) (.cons (.const .dead) (.cons (.const .dead) (.cons (.const .dead) (.cons (.const .dead) (.cons (.const .dead) (.cons (.const .dead) (.cons (.const .dead) (.cons (.const .dead) (.cons (.const .dead) (.cons (.const .dead) (.cons (.const .dead) (.cons (.const .dead) (.cons (.const .dead) (.cons (.const .dead) (.cons (.const .dead) (.cons (.const .dead) (.cons (.const .dead) (.cons (.const .dead) (.cons (.const .dead) (.cons (.const .dead) (.cons (.const .dead) (.cons (.const .dead) (.cons (.const .dead) (.cons (.const .dead) (.cons (.const .dead) (.cons (.const .dead) (.cons (.const .dead) (.cons (.const .dead) (.cons (.const .dead) (.cons (.const .dead) (.cons (.const .dead) (.cons (.const .dead) (.cons (.const .dead) (.cons (.const .dead) (.cons (.const .dead) (.cons (.const .dead) (.cons (.const .dead) (.cons (.const .dead) (.cons (.const .dead) (.cons (.const .dead) (.cons (.const .dead) (.cons (.const .dead) (.cons (.const .dead) (.cons (.const .dead) (.cons (.const .dead) (.cons (.const .dead) (.cons (.const .dead) (.cons (.const .dead) (.cons (.const .dead) (.cons (.const .dead) (.cons (.const .dead) (.cons (.const .dead) (.cons (.const .dead) (.cons (.const .dead) .nil))))))))))))))))))))))))))))))))))))))))))))))))))))))))))))))))))))), []⟩]
abbrev LT_law08_mixed_6 : Type := (ByteArray × ByteArray × (List (Int × Int × ByteArray × List Int)) × Int × Int × Bool × Int × Unit)
abbrev LM_law08_mixed_6 : Type := Unit
abbrev LO_law08_mixed_6 : Type := (ByteArray × ByteArray × (List (Int × Int × ByteArray × List Int)) × Int × Int × Bool × Unit) × Unit
def ltree_law08_mixed_6 {α : Type} (x1 : ByteArray) (x2 : ByteArray) (x3 : List (Int × Int × ByteArray × List Int)) (x4 : Int) (x5 : Int) (x6 : Bool) (x7 : Int) (kn : LT_law08_mixed_6 → LM_law08_mixed_6 → Option α) (kr : LO_law08_mixed_6 → Option α) : Option α :=
  cond (decide (x7 < (↑x3.length : Int)))
  (cond (decide (0 ≤ x7))
   (cond (decide (x7 < (↑x3.length : Int)))
    (cond ((x3.getD x7.toNat (0, 0, ByteArray.empty, [])).snd.fst == x4)
     (cond ((↑(x3.getD x7.toNat (0, 0, ByteArray.empty, [])).snd.snd.fst.size : Int) != (↑x1.size : Int))
      (cond (x6)
       (kn (x1, (x2, (x3, (x4, (x5, (true, (IntKind.i64.wrap (x7 + 1), ()))))))) ())
       (kn (x1, (x2, (x3, (x4, (x5, ((↑(x3.getD x7.toNat (0, 0, ByteArray.empty, [])).snd.snd.fst.size : Int) == (↑x1.size : Int), (IntKind.i64.wrap (x7 + 1), ()))))))) ()))
      (cond (decide (0 ≤ x5))
       (cond (decide (x5 < (↑(x3.getD x7.toNat (0, 0, ByteArray.empty, [])).snd.snd.fst.size : Int)))
        (cond (decide (0 ≤ x5))
         (cond (decide (x5 < (↑x1.size : Int)))
          (cond (Go.Proofs.Ytgfanlafbjbkaaa.S2.strAt (x3.getD x7.toNat (0, 0, ByteArray.empty, [])).snd.snd.fst x5 ==   Go.Proofs.Ytgfanlafbjbkaaa.S2.strAt x1 x5)
           (cond (x6)
            (kn (x1, (x2, (x3, (x4, (x5, (true, (IntKind.i64.wrap (x7 + 1), ()))))))) ())
            (kn (x1, (x2, (x3, (x4, (x5, ((↑(x3.getD x7.toNat (0, 0, ByteArray.empty, [])).snd.snd.fst.size : Int) == (↑x1.size : Int), (IntKind.i64.wrap (x7 + 1), ()))))))) ()))
           (kn (x1, (x2, (x3, (x4, (x5, (x6, (IntKind.i64.wrap (x7 + 1), ()))))))) ()))
          (none))
         (none))
        (none))
       (none)))
     (kn (x1, (x2, (x3, (x4, (x5, (x6, (IntKind.i64.wrap (x7 + 1), ()))))))) ()))
    (none))
   (none))
  (kr ((x1, (x2, (x3, (x4, (x5, (x6, ())))))), ()))
noncomputable def L_law08_mixed_6 : LT_law08_mixed_6 → LM_law08_mixed_6 → Option LO_law08_mixed_6 := fun x y => runL (fun p => (fun (a : LT_law08_mixed_6) (b : LM_law08_mixed_6) => ltree_law08_mixed_6 a.1 a.2.1 a.2.2.1 a.2.2.2.1 a.2.2.2.2.1 a.2.2.2.2.2.1 a.2.2.2.2.2.2.1 (fun a' b' => some (.inl (a', b'))) fun r => some (.inr r)) p.1 p.2) (x, y)
theorem nl_law08_mixed_6 (x1 : ByteArray) (x2 : ByteArray) (x3 : List (Int × Int × ByteArray × List Int)) (x4 : Int) (x5 : Int) (x6 : Bool) (x7 : Int) {α : Type} (kn : LT_law08_mixed_6 → LM_law08_mixed_6 → Option α) (kr : LO_law08_mixed_6 → Option α) : ltree_law08_mixed_6 x1 x2 x3 x4 x5 x6 x7 kn kr = (ltree_law08_mixed_6 x1 x2 x3 x4 x5 x6 x7 (fun a b => some (.inl (a, b))) fun r => some (.inr r)).bind (Sum.elim (fun p : LT_law08_mixed_6 × LM_law08_mixed_6 => kn p.1 p.2) kr) := by simp only [ltree_law08_mixed_6, bind_cond, bind_none', bind_some', bind_bind', bind_sum, Sum.elim_inl, Sum.elim_inr]
theorem Le_law08_mixed_6 (x1 : ByteArray) (x2 : ByteArray) (x3 : List (Int × Int × ByteArray × List Int)) (x4 : Int) (x5 : Int) (x6 : Bool) (x7 : Int) : L_law08_mixed_6 (x1, (x2, (x3, (x4, (x5, (x6, (x7, ()))))))) () = ltree_law08_mixed_6 x1 x2 x3 x4 x5 x6 x7 L_law08_mixed_6 some := runL_tree (A := LT_law08_mixed_6) (B := LM_law08_mixed_6) (R := LO_law08_mixed_6) (fun a b kn kr => ltree_law08_mixed_6 a.1 a.2.1 a.2.2.1 a.2.2.2.1 a.2.2.2.2.1 a.2.2.2.2.2.1 a.2.2.2.2.2.2.1 kn kr) (fun a b kn kr => nl_law08_mixed_6 a.1 a.2.1 a.2.2.1 a.2.2.2.1 a.2.2.2.2.1 a.2.2.2.2.2.1 a.2.2.2.2.2.2.1 kn kr) (x1, (x2, (x3, (x4, (x5, (x6, (x7, ()))))))) ()
def ltmps_law08_mixed_2 : SkL := (.cons (.leaf .str) (.cons (.leaf .str) (.cons (.leaf (.slc 36 (.cons (.int .i64) (.cons (.int .i64) (.cons .str (.cons (.slc 3 (.cons (.int .i64) .nil)) .nil)))))) (.cons (.leaf (.int .i64)) (.cons (.const .dead) (.cons (.const .dead) (.cons (.const .dead) (.cons (.const .dead) (.cons (.const .dead) (.cons (.leaf (.int .i64)) (.cons (.const .dead) (.cons (.const .dead) (.cons (.const .dead) (.cons (.const .dead) (.cons (.const .dead) (.cons (.const .dead) (.cons (.const .dead) (.cons (.const .dead) (.cons (.const .dead) (.cons (.const .dead) (.cons (.const .dead) (.cons (.const .dead) (.cons (.const .dead) (.cons (.const .dead) (.cons (.const .dead) (.cons (.const .dead) (.cons (.const .dead) (.cons (.const .dead) (.cons (.const .dead) (.cons (.const .dead) (.cons (.const .dead) (.cons (.const .dead) (.cons (.const .dead) (.cons (.const .dead) (.cons (.const .dead) (.cons (.const .dead) (.cons (.const .dead) (.cons (.const .dead) (.cons (.const .dead) (.cons (.const .dead) (.cons (.const .dead) (.cons (.const .dead) (.cons (.const .dead) (.cons (.const .dead) (.cons (.const .dead) (.cons (.const .dead) (.cons (.const .dead) (.cons (.const .dead) (.cons (.const .dead) (.cons (.const .dead) (.cons (.const .dead) (.cons (.const .dead) (.cons (.const .dead) (.cons (.const .dead) (.cons (.const .dead) (.cons (.const .dead) (.cons (.const .dead) (.cons (.const .dead) (.cons (.const .dead) (.cons (.const .dead) (.cons (.const .dead) (.cons (.const .dead) (.cons (.const .dead) (.cons (.const .dead) (.cons (.const .dead) (.cons (.const .dead) (.cons (.const .dead) (.cons (.const .dead) (.cons (.const .dead) .nil)))))))))))))))))))))))))))))))))))))))))))))))))))))))))))))))))))))
def lmem_law08_mixed_2 : MSk := []
def louts_law08_mixed_2 : List OutL := [⟨.ret, (.cons (.const .dead) (.cons (.const .dead) (.cons (.const .dead) (.cons (.const .dead) (.cons (.const .dead) (.cons (.const .dead) (.cons (.const .dead) (.cons (.const .dead) (.cons (.leaf .bool) (.cons (.const .dead) (.cons (.const .dead) (.cons (.const .dead) (.cons (.const .dead) (.cons (.const .dead) (.cons (.const .dead) (.cons (.const .dead) (.cons (.const .dead) (.cons (.const .dead) (.cons (.const .dead) (.cons (.const .dead) (.cons (.const .dead) (.cons (.const .dead) (.cons (.const .dead) (.cons (.const .dead) (.cons (.const .dead) (.cons (.const .dead) (.cons (.const .dead) (.cons (.const .dead) (.cons (.const .dead) (.cons (.const .dead) (.cons (.const .dead) (.cons (.const .dead) (.cons (.const .dead) (.cons (.const .dead) (.cons (.const .dead) (.cons (.const .dead) (.cons (.const .dead) (.cons (.const .dead) (.cons (.const .dead) (.cons (.const .dead) (.cons (.const .dead) (.cons (.const .dead) (.cons (.const .dead) (.cons (.const .dead) (.cons (.const .dead) (.cons (.const .dead) (.cons (.const .dead) (.cons (.const .dead) (.cons (.const .dead) (.cons (.const .dead) (.cons (.const .dead) (.cons (.const .dead) (.cons (.const .dead) (.cons (.const .dead) (.cons (.const .dead) (.cons (.const .dead) (.cons (.const .dead) (.cons (.const .dead) (.cons (.const .dead) (.cons (.const .dead) (.cons (.const .dead) (.cons (.const .dead) (.cons (.const .dead) (.cons (.const .dead) (.cons (.const .dead) (.cons (.const .dead) (.cons (.const .dead) (.cons (.const .dead) (.cons (.const .dead) .nil))))))))))))))))))))))))))))))))))))))))))))))))))))))))))))))))))))), []⟩, ⟨(.exit 0), (.cons (.const .dead) (.cons (.const .dead) (.cons (.const .dead) (.cons (.const .dead) (.cons (.const .dead) (.cons (.const .dead) (.cons (.const .dead) (.cons (.const .dead) (.cons (.const .dead) (.cons (.const .dead) (.cons (.const .dead) (.cons (.const .dead) (.cons (.const .dead) (.cons (.const .dead) (.cons (.const .dead) (.cons (.const .dead) (.cons (.const .dead) (.cons (.const .dead) (.cons (.const .dead) (.cons (.const .dead) (.cons (.const .dead) (.cons (.const .dead) (.cons (.const .dead) (.cons (.const .dead) (.cons (.const .dead) (.cons (.const .dead) (.cons (.const .dead) (.cons (.const .dead) (.cons (.const .dead) (.cons (.const .dead) (.cons (.const .dead) (.cons (.const .dead) (.cons (.const .dead) (.cons (.const .dead) (.cons (.const .dead) (.cons (.const .dead) (.cons (.const .dead) (.cons (.const .dead) (.cons (.const .dead) (.cons (.const .dead) (.cons (.const .dead) (.cons (.const .dead) (.cons (.const .dead) (.cons (.const .dead) (.cons (.const .dead) (.cons (.const .dead) (.cons (.const .dead) (.cons (.const .dead) (.cons (.const .dead) (.cons (.const .dead) (.cons (.const .dead) (.cons (.const .dead) (.cons (.const .dead) (.cons (.const .dead) (.cons (.const .dead) (.cons (.const .dead) (.cons (.const .dead) (.cons (.const .dead) (.cons (.const .dead) (.cons (.const .dead) (.cons (.const .dead) (.cons (.const .dead) (.cons (.const .dead) (.cons (.const .dead) (.cons (.const .dead) (.cons (.const .dead) (.cons (.const .dead) (.cons (.const .dead) (.cons (.const .dead) .nil))))))))))))))))))))))))))))))))))))))))))))))))))))))))))))))))))))), []⟩]
abbrev LT_law08_mixed_2 : Type := (ByteArray × ByteArray × (List (Int × Int × ByteArray × List Int)) × Int × Int × Unit)
abbrev LM_law08_mixed_2 : Type := Unit
abbrev LO_law08_mixed_2 : Type := ((Bool × Unit) × Unit) ⊕ (Unit × Unit)
def ltree_law08_mixed_2 (L_law08_mixed_6 : LT_law08_mixed_6 → LM_law08_mixed_6 → Option LO_law08_mixed_6) {α : Type} (x1 : ByteArray) (x2 : ByteArray) (x3 : List (Int × Int × ByteArray × List Int)) (x4 : Int) (x5 : Int) (kn : LT_law08_mixed_2 → LM_law08_mixed_2 → Option α) (kr : LO_law08_mixed_2 → Option α) : Option α :=
  cond (decide (x5 < (↑x1.size : Int)))
  (cond (decide (0 ≤ x5))
   (cond (decide (x5 < (↑x1.size : Int)))
    (cond (decide (0 ≤ x5))
     (cond (decide (x5 < (↑x2.size : Int)))
      ((L_law08_mixed_6   (x1, x2, x3, x4, x5, Go.Proofs.Ytgfanlafbjbkaaa.S2.strAt x1 x5 == Go.Proofs.Ytgfanlafbjbkaaa.S2.strAt x2 x5, 0, ()) ()).bind fun r1 =>
       cond (!r1.fst.snd.snd.snd.snd.snd.fst)
       (kr (.inl ((false, ()), ())))
       (kn (r1.fst.fst, (r1.fst.snd.fst, (r1.fst.snd.snd.fst, (r1.fst.snd.snd.snd.fst, (IntKind.i64.wrap (r1.fst.snd.snd.snd.snd.fst + 1), ()))))) ()))
      (none))
     (none))
    (none))
   (none))
  (kr (.inr ((), ())))
noncomputable def L_law08_mixed_2 : LT_law08_mixed_2 → LM_law08_mixed_2 → Option LO_law08_mixed_2 := fun x y => runL (fun p => (fun (a : LT_law08_mixed_2) (b : LM_law08_mixed_2) => ltree_law08_mixed_2 L_law08_mixed_6 a.1 a.2.1 a.2.2.1 a.2.2.2.1 a.2.2.2.2.1 (fun a' b' => some (.inl (a', b'))) fun r => some (.inr r)) p.1 p.2) (x, y)
theorem nl_law08_mixed_2 (L_law08_mixed_6 : LT_law08_mixed_6 → LM_law08_mixed_6 → Option LO_law08_mixed_6) (x1 : ByteArray) (x2 : ByteArray) (x3 : List (Int × Int × ByteArray × List Int)) (x4 : Int) (x5 : Int) {α : Type} (kn : LT_law08_mixed_2 → LM_law08_mixed_2 → Option α) (kr : LO_law08_mixed_2 → Option α) : ltree_law08_mixed_2 L_law08_mixed_6 x1 x2 x3 x4 x5 kn kr = (ltree_law08_mixed_2 L_law08_mixed_6 x1 x2 x3 x4 x5 (fun a b => some (.inl (a, b))) fun r => some (.inr r)).bind (Sum.elim (fun p : LT_law08_mixed_2 × LM_law08_mixed_2 => kn p.1 p.2) kr) := by simp only [ltree_law08_mixed_2, bind_cond, bind_none', bind_some', bind_bind', bind_sum, Sum.elim_inl, Sum.elim_inr]
theorem Le_law08_mixed_2 (x1 : ByteArray) (x2 : ByteArray) (x3 : List (Int × Int × ByteArray × List Int)) (x4 : Int) (x5 : Int) : L_law08_mixed_2 (x1, (x2, (x3, (x4, (x5, ()))))) () = ltree_law08_mixed_2 L_law08_mixed_6 x1 x2 x3 x4 x5 L_law08_mixed_2 some := runL_tree (A := LT_law08_mixed_2) (B := LM_law08_mixed_2) (R := LO_law08_mixed_2) (fun a b kn kr => ltree_law08_mixed_2 L_law08_mixed_6 a.1 a.2.1 a.2.2.1 a.2.2.2.1 a.2.2.2.2.1 kn kr) (fun a b kn kr => nl_law08_mixed_2 L_law08_mixed_6 a.1 a.2.1 a.2.2.1 a.2.2.2.1 a.2.2.2.2.1 kn kr) (x1, (x2, (x3, (x4, (x5, ()))))) ()
def tree_law08_mixed (L_law08_mixed_2 : LT_law08_mixed_2 → LM_law08_mixed_2 → Option LO_law08_mixed_2) {α : Type} (x1 : ByteArray) (x2 : ByteArray) (x3 : List (Int × Int × ByteArray × List Int)) (x4 : Int) (K : O_law08_mixed → Option α) : Option α :=
  (L_law08_mixed_2 (x1, x2, x3, x4, 0, ()) ()).bind fun r1 =>
  Sum.elim (fun u2 =>
   K (u2.fst.fst, ()))
  (fun u2 =>
   K (true, ())) (r1)
noncomputable def F_law08_mixed : A_law08_mixed → M_law08_mixed → Option O_law08_mixed := fun a b => tree_law08_mixed L_law08_mixed_2 a.1 a.2.1 a.2.2.1 a.2.2.2.1 some
theorem n_law08_mixed (L_law08_mixed_2 : LT_law08_mixed_2 → LM_law08_mixed_2 → Option LO_law08_mixed_2) (x1 : ByteArray) (x2 : ByteArray) (x3 : List (Int × Int × ByteArray × List Int)) (x4 : Int) {α : Type} (K : O_law08_mixed → Option α) : tree_law08_mixed L_law08_mixed_2 x1 x2 x3 x4 K = (tree_law08_mixed L_law08_mixed_2 x1 x2 x3 x4 some).bind K := by simp only [tree_law08_mixed, bind_cond, bind_none', bind_some', bind_bind', bind_sum]
theorem Fe_law08_mixed (x1 : ByteArray) (x2 : ByteArray) (x3 : List (Int × Int × ByteArray × List Int)) (x4 : Int) : F_law08_mixed (x1, (x2, (x3, (x4, ())))) () = tree_law08_mixed L_law08_mixed_2 x1 x2 x3 x4 some := rfl

end Go.Proofs.Ytgfanlafbjbkaaa.S2
